/-
  DERIVED. GIVEN WITH THE SEED: THE CARDS: each row of YtbbbblinjomajaaGreatDoorRows.lean that lists a variable, with what it lists TIED to the program's text (the seventh form; the later family's looks); each row that meets fmt, with fmt's text TOLD by the authors' own Lean function (tested against real Go, not proved from fmt's source: count such statements apart). THE CARD IS WHAT COUNTS. Prove the row's statement (the work); the ties are given (YtbbbblinjomajaaGreatDoorTie.lean); close each card by the builder's one call (the guide's Derived/Test/ToyasCard.lean, 'card_holds'). Laid BY PROGRAM, IN A SANDBOX (cutbox-door.mjs). By AI agents, Wed Nov 11 2026. No macro, syntax, notation, axiom, sorry.
-/
import Derived.Test.YtbbbblinjomajaaGreatDoorRows
import GoSem.ClaimSeven
namespace Go.Proofs.YtbbbblinjomajaaGreatDoor
namespace Rows

/-- THE TIED CARD OF 'variorumlaw21.JournalFull'. -/
def journalFullCard : Claim7 := { stood := { row := journalFullRow, standIns := [], harness := (true, "b8a07a4ff3390932c1c13b950f0bf2991b449794818798d0ebfbff534d43749f"), looks := true }, kinds := [], alts := [], laidByText := true, laidKinds := [.data, .pinned], laidTests := true, laidLooks := .later }
def JournalFullCardSaid : Prop := Claim7.holds Tryz.pinned (.plain (OpenSpec.ofChange journalFullSpec)) journalFullCard

/-- THE TIED CARD OF 'variorumlaw21.JournalNil'. -/
def journalNilCard : Claim7 := { stood := { row := journalNilRow, standIns := [], harness := (true, "b8a07a4ff3390932c1c13b950f0bf2991b449794818798d0ebfbff534d43749f"), looks := true }, kinds := [], alts := [], laidByText := true, laidKinds := [.data, .pinned], laidTests := true, laidLooks := .later }
def JournalNilCardSaid : Prop := Claim7.holds Tryz.pinned (.plain (OpenSpec.ofChange journalNilSpec)) journalNilCard

/-- THE TIED CARD OF 'variorumlaw21.JournalTorn'. -/
def journalTornCard : Claim7 := { stood := { row := journalTornRow, standIns := [], harness := (true, "b8a07a4ff3390932c1c13b950f0bf2991b449794818798d0ebfbff534d43749f"), looks := true }, kinds := [], alts := [], laidByText := true, laidKinds := [.data, .pinned], laidTests := true, laidLooks := .later }
def JournalTornCardSaid : Prop := Claim7.holds Tryz.pinned (.plain (OpenSpec.ofChange journalTornSpec)) journalTornCard

/-- THE TIED CARD OF 'variorumlaw21.JournalRenewed'. -/
def journalRenewedCard : Claim7 := { stood := { row := journalRenewedRow, standIns := [], harness := (true, "b8a07a4ff3390932c1c13b950f0bf2991b449794818798d0ebfbff534d43749f"), looks := true }, kinds := [], alts := [], laidByText := true, laidKinds := [.data, .pinned], laidTests := true, laidLooks := .later }
def JournalRenewedCardSaid : Prop := Claim7.holds Tryz.pinned (.plain (OpenSpec.ofChange journalRenewedSpec)) journalRenewedCard

/-- THE TIED CARD OF 'variorumlaw21.JournalPlays'. -/
def journalPlaysCard : Claim7 := { stood := { row := journalPlaysRow, standIns := [], harness := (true, "b8a07a4ff3390932c1c13b950f0bf2991b449794818798d0ebfbff534d43749f"), looks := true }, kinds := [], alts := [], laidByText := true, laidKinds := [.data, .pinned], laidTests := true, laidLooks := .later }
def JournalPlaysCardSaid : Prop := Claim7.holds Tryz.pinned (.plain (OpenSpec.ofChange journalPlaysSpec)) journalPlaysCard

/-- THE SECOND FORM's CARD OF 'variorumlaw21.JournalFull'. -/
def journalFullUptoCard : Claim7 := { stood := { row := journalFullUptoRow, standIns := [], harness := (true, "b8a07a4ff3390932c1c13b950f0bf2991b449794818798d0ebfbff534d43749f"), looks := true }, kinds := [], alts := [], laidByText := true, laidKinds := [.data, .pinned], laidTests := true, laidLooks := .later }
def JournalFullUptoCardSaid : Prop := Claim7.holds Tryz.pinned (.plain (OpenSpec.upto journalFullSpec)) journalFullUptoCard

/-- THE SECOND FORM's CARD OF 'variorumlaw21.JournalNil'. -/
def journalNilUptoCard : Claim7 := { stood := { row := journalNilUptoRow, standIns := [], harness := (true, "b8a07a4ff3390932c1c13b950f0bf2991b449794818798d0ebfbff534d43749f"), looks := true }, kinds := [], alts := [], laidByText := true, laidKinds := [.data, .pinned], laidTests := true, laidLooks := .later }
def JournalNilUptoCardSaid : Prop := Claim7.holds Tryz.pinned (.plain (OpenSpec.upto journalNilSpec)) journalNilUptoCard

/-- THE SECOND FORM's CARD OF 'variorumlaw21.JournalTorn'. -/
def journalTornUptoCard : Claim7 := { stood := { row := journalTornUptoRow, standIns := [], harness := (true, "b8a07a4ff3390932c1c13b950f0bf2991b449794818798d0ebfbff534d43749f"), looks := true }, kinds := [], alts := [], laidByText := true, laidKinds := [.data, .pinned], laidTests := true, laidLooks := .later }
def JournalTornUptoCardSaid : Prop := Claim7.holds Tryz.pinned (.plain (OpenSpec.upto journalTornSpec)) journalTornUptoCard

/-- THE SECOND FORM's CARD OF 'variorumlaw21.JournalRenewed'. -/
def journalRenewedUptoCard : Claim7 := { stood := { row := journalRenewedUptoRow, standIns := [], harness := (true, "b8a07a4ff3390932c1c13b950f0bf2991b449794818798d0ebfbff534d43749f"), looks := true }, kinds := [], alts := [], laidByText := true, laidKinds := [.data, .pinned], laidTests := true, laidLooks := .later }
def JournalRenewedUptoCardSaid : Prop := Claim7.holds Tryz.pinned (.plain (OpenSpec.upto journalRenewedSpec)) journalRenewedUptoCard

/-- THE SECOND FORM's CARD OF 'variorumlaw21.JournalPlays'. -/
def journalPlaysUptoCard : Claim7 := { stood := { row := journalPlaysUptoRow, standIns := [], harness := (true, "b8a07a4ff3390932c1c13b950f0bf2991b449794818798d0ebfbff534d43749f"), looks := true }, kinds := [], alts := [], laidByText := true, laidKinds := [.data, .pinned], laidTests := true, laidLooks := .later }
def JournalPlaysUptoCardSaid : Prop := Claim7.holds Tryz.pinned (.plain (OpenSpec.upto journalPlaysSpec)) journalPlaysUptoCard
end Rows
end Go.Proofs.YtbbbblinjomajaaGreatDoor
