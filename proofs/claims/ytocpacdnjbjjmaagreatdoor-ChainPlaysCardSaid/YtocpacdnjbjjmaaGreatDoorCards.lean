/-
  DERIVED. GIVEN WITH THE SEED: THE CARDS: each row of YtocpacdnjbjjmaaGreatDoorRows.lean that lists a variable, with what it lists TIED to the program's text (the seventh form; the later family's looks); each row that meets fmt, with fmt's text TOLD by the authors' own Lean function (tested against real Go, not proved from fmt's source: count such statements apart). THE CARD IS WHAT COUNTS. Prove the row's statement (the work); the ties are given (YtocpacdnjbjjmaaGreatDoorTie.lean); close each card by the builder's one call (the guide's Derived/Test/ToyasCard.lean, 'card_holds'). Laid BY PROGRAM, IN A SANDBOX (cutbox-door.mjs). By AI agents, Wed Nov 11 2026. No macro, syntax, notation, axiom, sorry.
-/
import Derived.Test.YtocpacdnjbjjmaaGreatDoorRows
import GoSem.ClaimSeven
namespace Go.Proofs.YtocpacdnjbjjmaaGreatDoor
namespace Rows

/-- THE TIED CARD OF 'twinspanlaw20.ChainHeaders'. -/
def chainHeadersCard : Claim7 := { stood := { row := chainHeadersRow, standIns := [], harness := (true, "caa62e182735f65c2ad0bfd406b49566661a7d6a2ac6a2602742cfb81b615ea8"), looks := false }, kinds := [], alts := [], laidByText := true, laidKinds := [.data, .data, .data, .pinned], laidTests := true, laidLooks := .later }
def ChainHeadersCardSaid : Prop := Claim7.holds Tryz.pinned (.plain (OpenSpec.ofChange chainHeadersSpec)) chainHeadersCard

/-- THE TIED CARD OF 'twinspanlaw20.ChainPlays'. -/
def chainPlaysCard : Claim7 := { stood := { row := chainPlaysRow, standIns := [], harness := (true, "caa62e182735f65c2ad0bfd406b49566661a7d6a2ac6a2602742cfb81b615ea8"), looks := false }, kinds := [], alts := [], laidByText := true, laidKinds := [.data, .data, .data, .pinned], laidTests := true, laidLooks := .later }
def ChainPlaysCardSaid : Prop := Claim7.holds Tryz.pinned (.plain (OpenSpec.ofChange chainPlaysSpec)) chainPlaysCard

/-- THE SECOND FORM's CARD OF 'twinspanlaw20.ChainHeaders'. -/
def chainHeadersUptoCard : Claim7 := { stood := { row := chainHeadersUptoRow, standIns := [], harness := (true, "caa62e182735f65c2ad0bfd406b49566661a7d6a2ac6a2602742cfb81b615ea8"), looks := false }, kinds := [], alts := [], laidByText := true, laidKinds := [.data, .data, .data, .pinned], laidTests := true, laidLooks := .later }
def ChainHeadersUptoCardSaid : Prop := Claim7.holds Tryz.pinned (.plain (OpenSpec.upto chainHeadersSpec)) chainHeadersUptoCard

/-- THE SECOND FORM's CARD OF 'twinspanlaw20.ChainPlays'. -/
def chainPlaysUptoCard : Claim7 := { stood := { row := chainPlaysUptoRow, standIns := [], harness := (true, "caa62e182735f65c2ad0bfd406b49566661a7d6a2ac6a2602742cfb81b615ea8"), looks := false }, kinds := [], alts := [], laidByText := true, laidKinds := [.data, .data, .data, .pinned], laidTests := true, laidLooks := .later }
def ChainPlaysUptoCardSaid : Prop := Claim7.holds Tryz.pinned (.plain (OpenSpec.upto chainPlaysSpec)) chainPlaysUptoCard
end Rows
end Go.Proofs.YtocpacdnjbjjmaaGreatDoor
