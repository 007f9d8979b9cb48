/-
  DERIVED. GIVEN WITH THE SEED: THE CARDS: each row of YtlkkekpcofjbeaaGreatDoorRows.lean that lists a variable, with what it lists TIED to the program's text (the seventh form; the later family's looks); each row that meets fmt, with fmt's text TOLD by the authors' own Lean function (tested against real Go, not proved from fmt's source: count such statements apart). THE CARD IS WHAT COUNTS. Prove the row's statement (the work); the ties are given (YtlkkekpcofjbeaaGreatDoorTie.lean); close each card by the builder's one call (the guide's Derived/Test/ToyasCard.lean, 'card_holds'). Laid BY PROGRAM, IN A SANDBOX (cutbox-door.mjs). By AI agents, Wed Nov 11 2026. No macro, syntax, notation, axiom, sorry.
-/
import Derived.Test.YtlkkekpcofjbeaaGreatDoorRows
import GoSem.ClaimSeven
namespace Go.Proofs.YtlkkekpcofjbeaaGreatDoor
namespace Rows

/-- THE TIED CARD OF 'twinspanlaw18.CoreHands'. -/
def coreHandsCard : Claim7 := { stood := { row := coreHandsRow, standIns := [], harness := (true, "83b953796021f0cd51eaf76994531c6d1350c138f2e427f776dec24faa274b4a"), looks := false }, kinds := [], alts := [], laidByText := true, laidKinds := [.data, .data, .data, .pinned], laidTests := true, laidLooks := .later }
def CoreHandsCardSaid : Prop := Claim7.holds Tryz.pinned (.plain (OpenSpec.ofChange coreHandsSpec)) coreHandsCard

/-- THE SECOND FORM's CARD OF 'twinspanlaw18.CoreHands'. -/
def coreHandsUptoCard : Claim7 := { stood := { row := coreHandsUptoRow, standIns := [], harness := (true, "83b953796021f0cd51eaf76994531c6d1350c138f2e427f776dec24faa274b4a"), looks := false }, kinds := [], alts := [], laidByText := true, laidKinds := [.data, .data, .data, .pinned], laidTests := true, laidLooks := .later }
def CoreHandsUptoCardSaid : Prop := Claim7.holds Tryz.pinned (.plain (OpenSpec.upto coreHandsSpec)) coreHandsUptoCard
end Rows
end Go.Proofs.YtlkkekpcofjbeaaGreatDoor
