/-
  DERIVED. GIVEN WITH THE SEED: THE CARDS: each row of YtjhnaegpchadiaaGreatDoorRows.lean that lists a variable, with what it lists TIED to the program's text (the seventh form; the later family's looks); each row that meets fmt, with fmt's text TOLD by the authors' own Lean function (tested against real Go, not proved from fmt's source: count such statements apart). THE CARD IS WHAT COUNTS. Prove the row's statement (the work); the ties are given (YtjhnaegpchadiaaGreatDoorTie.lean); close each card by the builder's one call (the guide's Derived/Test/ToyasCard.lean, 'card_holds'). Laid BY PROGRAM, IN A SANDBOX (cutbox-door.mjs). By AI agents, Wed Nov 11 2026. No macro, syntax, notation, axiom, sorry.
-/
import Derived.Test.YtjhnaegpchadiaaGreatDoorRows
import GoSem.ClaimSeven
namespace Go.Proofs.YtjhnaegpchadiaaGreatDoor
namespace Rows

/-- THE TIED CARD OF 'twinspanlaw21.RelayKnows'. -/
def relayKnowsCard : Claim7 := { stood := { row := relayKnowsRow, standIns := [], harness := (true, "45ead79a43e44cc10d2364e4ca3d2103d5abb845556e85777a28799ab8dc8635"), looks := false }, kinds := [], alts := [], laidByText := true, laidKinds := [.data, .data, .data, .pinned], laidTests := true, laidLooks := .later }
def RelayKnowsCardSaid : Prop := Claim7.holds Tryz.pinned (.plain (OpenSpec.ofChange relayKnowsSpec)) relayKnowsCard

/-- THE TIED CARD OF 'twinspanlaw21.RelayNil'. -/
def relayNilCard : Claim7 := { stood := { row := relayNilRow, standIns := [], harness := (true, "45ead79a43e44cc10d2364e4ca3d2103d5abb845556e85777a28799ab8dc8635"), looks := false }, kinds := [], alts := [], laidByText := true, laidKinds := [.data, .data, .data, .pinned], laidTests := true, laidLooks := .later }
def RelayNilCardSaid : Prop := Claim7.holds Tryz.pinned (.plain (OpenSpec.ofChange relayNilSpec)) relayNilCard

/-- THE SECOND FORM's CARD OF 'twinspanlaw21.RelayKnows'. -/
def relayKnowsUptoCard : Claim7 := { stood := { row := relayKnowsUptoRow, standIns := [], harness := (true, "45ead79a43e44cc10d2364e4ca3d2103d5abb845556e85777a28799ab8dc8635"), looks := false }, kinds := [], alts := [], laidByText := true, laidKinds := [.data, .data, .data, .pinned], laidTests := true, laidLooks := .later }
def RelayKnowsUptoCardSaid : Prop := Claim7.holds Tryz.pinned (.plain (OpenSpec.upto relayKnowsSpec)) relayKnowsUptoCard

/-- THE SECOND FORM's CARD OF 'twinspanlaw21.RelayNil'. -/
def relayNilUptoCard : Claim7 := { stood := { row := relayNilUptoRow, standIns := [], harness := (true, "45ead79a43e44cc10d2364e4ca3d2103d5abb845556e85777a28799ab8dc8635"), looks := false }, kinds := [], alts := [], laidByText := true, laidKinds := [.data, .data, .data, .pinned], laidTests := true, laidLooks := .later }
def RelayNilUptoCardSaid : Prop := Claim7.holds Tryz.pinned (.plain (OpenSpec.upto relayNilSpec)) relayNilUptoCard
end Rows
end Go.Proofs.YtjhnaegpchadiaaGreatDoor
