/-
  DERIVED. GIVEN WITH THE SEED: THE CARDS: each row of YtgcmdlboancepaaGreatDoorRows.lean that lists a variable, with what it lists TIED to the program's text (the seventh form; the later family's looks); each row that meets fmt, with fmt's text TOLD by the authors' own Lean function (tested against real Go, not proved from fmt's source: count such statements apart). THE CARD IS WHAT COUNTS. Prove the row's statement (the work); the ties are given (YtgcmdlboancepaaGreatDoorTie.lean); close each card by the builder's one call (the guide's Derived/Test/ToyasCard.lean, 'card_holds'). Laid BY PROGRAM, IN A SANDBOX (cutbox-door.mjs). By AI agents, Wed Nov 11 2026. No macro, syntax, notation, axiom, sorry.
-/
import Derived.Test.YtgcmdlboancepaaGreatDoorRows
import GoSem.ClaimSeven
namespace Go.Proofs.YtgcmdlboancepaaGreatDoor
namespace Rows

/-- THE TIED CARD OF 'twinspanlaw21.RelayPlays'. -/
def relayPlaysCard : Claim7 := { stood := { row := relayPlaysRow, standIns := [], harness := (true, "e3a9341d83d757bc91f61f130c4755b924b319124cb329da691098532a5698d2"), looks := false }, kinds := [], alts := [], laidByText := true, laidKinds := [.data, .data, .data, .pinned], laidTests := true, laidLooks := .later }
def RelayPlaysCardSaid : Prop := Claim7.holds Tryz.pinned (.plain (OpenSpec.ofChange relayPlaysSpec)) relayPlaysCard

/-- THE TIED CARD OF 'twinspanlaw21.RelayBoth'. -/
def relayBothCard : Claim7 := { stood := { row := relayBothRow, standIns := [], harness := (true, "e3a9341d83d757bc91f61f130c4755b924b319124cb329da691098532a5698d2"), looks := false }, kinds := [], alts := [], laidByText := true, laidKinds := [.data, .data, .data, .pinned], laidTests := true, laidLooks := .later }
def RelayBothCardSaid : Prop := Claim7.holds Tryz.pinned (.plain (OpenSpec.ofChange relayBothSpec)) relayBothCard

/-- THE TIED CARD OF 'twinspanlaw21.RelayRight'. -/
def relayRightCard : Claim7 := { stood := { row := relayRightRow, standIns := [], harness := (true, "e3a9341d83d757bc91f61f130c4755b924b319124cb329da691098532a5698d2"), looks := false }, kinds := [], alts := [], laidByText := true, laidKinds := [.data, .data, .data, .pinned], laidTests := true, laidLooks := .later }
def RelayRightCardSaid : Prop := Claim7.holds Tryz.pinned (.plain (OpenSpec.ofChange relayRightSpec)) relayRightCard

/-- THE SECOND FORM's CARD OF 'twinspanlaw21.RelayPlays'. -/
def relayPlaysUptoCard : Claim7 := { stood := { row := relayPlaysUptoRow, standIns := [], harness := (true, "e3a9341d83d757bc91f61f130c4755b924b319124cb329da691098532a5698d2"), looks := false }, kinds := [], alts := [], laidByText := true, laidKinds := [.data, .data, .data, .pinned], laidTests := true, laidLooks := .later }
def RelayPlaysUptoCardSaid : Prop := Claim7.holds Tryz.pinned (.plain (OpenSpec.upto relayPlaysSpec)) relayPlaysUptoCard

/-- THE SECOND FORM's CARD OF 'twinspanlaw21.RelayBoth'. -/
def relayBothUptoCard : Claim7 := { stood := { row := relayBothUptoRow, standIns := [], harness := (true, "e3a9341d83d757bc91f61f130c4755b924b319124cb329da691098532a5698d2"), looks := false }, kinds := [], alts := [], laidByText := true, laidKinds := [.data, .data, .data, .pinned], laidTests := true, laidLooks := .later }
def RelayBothUptoCardSaid : Prop := Claim7.holds Tryz.pinned (.plain (OpenSpec.upto relayBothSpec)) relayBothUptoCard

/-- THE SECOND FORM's CARD OF 'twinspanlaw21.RelayRight'. -/
def relayRightUptoCard : Claim7 := { stood := { row := relayRightUptoRow, standIns := [], harness := (true, "e3a9341d83d757bc91f61f130c4755b924b319124cb329da691098532a5698d2"), looks := false }, kinds := [], alts := [], laidByText := true, laidKinds := [.data, .data, .data, .pinned], laidTests := true, laidLooks := .later }
def RelayRightUptoCardSaid : Prop := Claim7.holds Tryz.pinned (.plain (OpenSpec.upto relayRightSpec)) relayRightUptoCard
end Rows
end Go.Proofs.YtgcmdlboancepaaGreatDoor
