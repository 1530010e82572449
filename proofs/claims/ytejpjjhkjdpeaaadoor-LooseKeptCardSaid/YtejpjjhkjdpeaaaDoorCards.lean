/-
  DERIVED. GIVEN WITH THE SEED: THE CARDS: each row of YtejpjjhkjdpeaaaDoorRows.lean that lists a variable, with what it lists TIED to the program's text (the seventh form; the later family's looks); each row that meets fmt, with fmt's text TOLD by the authors' own Lean function (tested against real Go, not proved from fmt's source: count such statements apart). THE CARD IS WHAT COUNTS. Prove the row's statement (the work); the ties are given (YtejpjjhkjdpeaaaDoorTie.lean); close each card by the builder's one call (the guide's Derived/Test/ToyasCard.lean, 'card_holds'). Laid BY PROGRAM, IN A SANDBOX (cutbox-door.mjs). By AI agents, Wed Nov 11 2026. No macro, syntax, notation, axiom, sorry.
-/
import Derived.Test.YtejpjjhkjdpeaaaDoorRows
import GoSem.ClaimSeven
namespace Go.Proofs.YtejpjjhkjdpeaaaDoor
namespace Rows

/-- THE TIED CARD OF 'variorumlaw09.LooseTwice'. -/
def looseTwiceCard : Claim7 := { stood := { row := looseTwiceRow, standIns := [], harness := (true, "d6a73553925d78bd5070f478301b65121d06e8fdcb2c84018a4ed183a4ec8889"), looks := true }, kinds := [], alts := [], laidByText := true, laidKinds := [.data, .data], laidTests := true, laidLooks := .later }
def LooseTwiceCardSaid : Prop := Claim7.holds Tryd.pinned (.plain (OpenSpec.ofChange looseTwiceSpec)) looseTwiceCard

/-- THE TIED CARD OF 'variorumlaw09.LooseTrue'. -/
def looseTrueCard : Claim7 := { stood := { row := looseTrueRow, standIns := [], harness := (true, "d6a73553925d78bd5070f478301b65121d06e8fdcb2c84018a4ed183a4ec8889"), looks := true }, kinds := [], alts := [], laidByText := true, laidKinds := [.data, .data], laidTests := true, laidLooks := .later }
def LooseTrueCardSaid : Prop := Claim7.holds Tryd.pinned (.plain (OpenSpec.ofChange looseTrueSpec)) looseTrueCard

/-- THE TIED CARD OF 'variorumlaw09.LooseKept'. -/
def looseKeptCard : Claim7 := { stood := { row := looseKeptRow, standIns := [], harness := (true, "d6a73553925d78bd5070f478301b65121d06e8fdcb2c84018a4ed183a4ec8889"), looks := true }, kinds := [], alts := [], laidByText := true, laidKinds := [.data, .data], laidTests := true, laidLooks := .later }
def LooseKeptCardSaid : Prop := Claim7.holds Tryd.pinned (.plain (OpenSpec.ofChange looseKeptSpec)) looseKeptCard

/-- THE SECOND FORM's CARD OF 'variorumlaw09.LooseTwice'. -/
def looseTwiceUptoCard : Claim7 := { stood := { row := looseTwiceUptoRow, standIns := [], harness := (true, "d6a73553925d78bd5070f478301b65121d06e8fdcb2c84018a4ed183a4ec8889"), looks := true }, kinds := [], alts := [], laidByText := true, laidKinds := [.data, .data], laidTests := true, laidLooks := .later }
def LooseTwiceUptoCardSaid : Prop := Claim7.holds Tryd.pinned (.plain (OpenSpec.upto looseTwiceSpec)) looseTwiceUptoCard

/-- THE SECOND FORM's CARD OF 'variorumlaw09.LooseTrue'. -/
def looseTrueUptoCard : Claim7 := { stood := { row := looseTrueUptoRow, standIns := [], harness := (true, "d6a73553925d78bd5070f478301b65121d06e8fdcb2c84018a4ed183a4ec8889"), looks := true }, kinds := [], alts := [], laidByText := true, laidKinds := [.data, .data], laidTests := true, laidLooks := .later }
def LooseTrueUptoCardSaid : Prop := Claim7.holds Tryd.pinned (.plain (OpenSpec.upto looseTrueSpec)) looseTrueUptoCard

/-- THE SECOND FORM's CARD OF 'variorumlaw09.LooseKept'. -/
def looseKeptUptoCard : Claim7 := { stood := { row := looseKeptUptoRow, standIns := [], harness := (true, "d6a73553925d78bd5070f478301b65121d06e8fdcb2c84018a4ed183a4ec8889"), looks := true }, kinds := [], alts := [], laidByText := true, laidKinds := [.data, .data], laidTests := true, laidLooks := .later }
def LooseKeptUptoCardSaid : Prop := Claim7.holds Tryd.pinned (.plain (OpenSpec.upto looseKeptSpec)) looseKeptUptoCard
end Rows
end Go.Proofs.YtejpjjhkjdpeaaaDoor
