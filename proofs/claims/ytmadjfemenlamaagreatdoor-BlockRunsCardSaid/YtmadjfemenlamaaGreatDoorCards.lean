/-
  DERIVED. GIVEN WITH THE SEED: THE CARDS: each row of YtmadjfemenlamaaGreatDoorRows.lean that lists a variable, with what it lists TIED to the program's text (the seventh form; the later family's looks); each row that meets fmt, with fmt's text TOLD by the authors' own Lean function (tested against real Go, not proved from fmt's source: count such statements apart). THE CARD IS WHAT COUNTS. Prove the row's statement (the work); the ties are given (YtmadjfemenlamaaGreatDoorTie.lean); close each card by the builder's one call (the guide's Derived/Test/ToyasCard.lean, 'card_holds'). Laid BY PROGRAM, IN A SANDBOX (cutbox-door.mjs). By AI agents, Wed Nov 11 2026. No macro, syntax, notation, axiom, sorry.
-/
import Derived.Test.YtmadjfemenlamaaGreatDoorRows
import GoSem.ClaimSeven
namespace Go.Proofs.YtmadjfemenlamaaGreatDoor
namespace Rows

/-- THE TIED CARD OF 'twinspanlaw19.BlockRuns'. -/
def blockRunsCard : Claim7 := { stood := { row := blockRunsRow, standIns := [], harness := (true, "cabb1d2422da48dd81568afb7a499278019977dbd16b08270f3ed15ca5c9cb39"), looks := false }, kinds := [], alts := [], laidByText := true, laidKinds := [.data, .data, .data, .pinned], laidTests := true, laidLooks := .later }
def BlockRunsCardSaid : Prop := Claim7.holds Tryz.pinned (.plain (OpenSpec.ofChange blockRunsSpec)) blockRunsCard

/-- THE TIED CARD OF 'twinspanlaw19.BlockParts'. -/
def blockPartsCard : Claim7 := { stood := { row := blockPartsRow, standIns := [], harness := (true, "cabb1d2422da48dd81568afb7a499278019977dbd16b08270f3ed15ca5c9cb39"), looks := false }, kinds := [], alts := [], laidByText := true, laidKinds := [.data, .data, .data, .pinned], laidTests := true, laidLooks := .later }
def BlockPartsCardSaid : Prop := Claim7.holds Tryz.pinned (.plain (OpenSpec.ofChange blockPartsSpec)) blockPartsCard

/-- THE TIED CARD OF 'twinspanlaw19.BlockFails'. -/
def blockFailsCard : Claim7 := { stood := { row := blockFailsRow, standIns := [], harness := (true, "cabb1d2422da48dd81568afb7a499278019977dbd16b08270f3ed15ca5c9cb39"), looks := false }, kinds := [], alts := [], laidByText := true, laidKinds := [.data, .data, .data, .pinned], laidTests := true, laidLooks := .later }
def BlockFailsCardSaid : Prop := Claim7.holds Tryz.pinned (.plain (OpenSpec.ofChange blockFailsSpec)) blockFailsCard

/-- THE TIED CARD OF 'twinspanlaw19.BlockRoots'. -/
def blockRootsCard : Claim7 := { stood := { row := blockRootsRow, standIns := [], harness := (true, "cabb1d2422da48dd81568afb7a499278019977dbd16b08270f3ed15ca5c9cb39"), looks := false }, kinds := [], alts := [], laidByText := true, laidKinds := [.data, .data, .data, .pinned], laidTests := true, laidLooks := .later }
def BlockRootsCardSaid : Prop := Claim7.holds Tryz.pinned (.plain (OpenSpec.ofChange blockRootsSpec)) blockRootsCard

/-- THE SECOND FORM's CARD OF 'twinspanlaw19.BlockRuns'. -/
def blockRunsUptoCard : Claim7 := { stood := { row := blockRunsUptoRow, standIns := [], harness := (true, "cabb1d2422da48dd81568afb7a499278019977dbd16b08270f3ed15ca5c9cb39"), looks := false }, kinds := [], alts := [], laidByText := true, laidKinds := [.data, .data, .data, .pinned], laidTests := true, laidLooks := .later }
def BlockRunsUptoCardSaid : Prop := Claim7.holds Tryz.pinned (.plain (OpenSpec.upto blockRunsSpec)) blockRunsUptoCard

/-- THE SECOND FORM's CARD OF 'twinspanlaw19.BlockParts'. -/
def blockPartsUptoCard : Claim7 := { stood := { row := blockPartsUptoRow, standIns := [], harness := (true, "cabb1d2422da48dd81568afb7a499278019977dbd16b08270f3ed15ca5c9cb39"), looks := false }, kinds := [], alts := [], laidByText := true, laidKinds := [.data, .data, .data, .pinned], laidTests := true, laidLooks := .later }
def BlockPartsUptoCardSaid : Prop := Claim7.holds Tryz.pinned (.plain (OpenSpec.upto blockPartsSpec)) blockPartsUptoCard

/-- THE SECOND FORM's CARD OF 'twinspanlaw19.BlockFails'. -/
def blockFailsUptoCard : Claim7 := { stood := { row := blockFailsUptoRow, standIns := [], harness := (true, "cabb1d2422da48dd81568afb7a499278019977dbd16b08270f3ed15ca5c9cb39"), looks := false }, kinds := [], alts := [], laidByText := true, laidKinds := [.data, .data, .data, .pinned], laidTests := true, laidLooks := .later }
def BlockFailsUptoCardSaid : Prop := Claim7.holds Tryz.pinned (.plain (OpenSpec.upto blockFailsSpec)) blockFailsUptoCard

/-- THE SECOND FORM's CARD OF 'twinspanlaw19.BlockRoots'. -/
def blockRootsUptoCard : Claim7 := { stood := { row := blockRootsUptoRow, standIns := [], harness := (true, "cabb1d2422da48dd81568afb7a499278019977dbd16b08270f3ed15ca5c9cb39"), looks := false }, kinds := [], alts := [], laidByText := true, laidKinds := [.data, .data, .data, .pinned], laidTests := true, laidLooks := .later }
def BlockRootsUptoCardSaid : Prop := Claim7.holds Tryz.pinned (.plain (OpenSpec.upto blockRootsSpec)) blockRootsUptoCard
end Rows
end Go.Proofs.YtmadjfemenlamaaGreatDoor
