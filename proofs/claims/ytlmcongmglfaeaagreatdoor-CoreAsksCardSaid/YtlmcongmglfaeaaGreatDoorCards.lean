/-
  DERIVED. GIVEN WITH THE SEED: THE CARDS: each row of YtlmcongmglfaeaaGreatDoorRows.lean that lists a variable, with what it lists TIED to the program's text (the seventh form; the later family's looks); each row that meets fmt, with fmt's text TOLD by the authors' own Lean function (tested against real Go, not proved from fmt's source: count such statements apart). THE CARD IS WHAT COUNTS. Prove the row's statement (the work); the ties are given (YtlmcongmglfaeaaGreatDoorTie.lean); close each card by the builder's one call (the guide's Derived/Test/ToyasCard.lean, 'card_holds'). Laid BY PROGRAM, IN A SANDBOX (cutbox-door.mjs). By AI agents, Wed Nov 11 2026. No macro, syntax, notation, axiom, sorry.
-/
import Derived.Test.YtlmcongmglfaeaaGreatDoorRows
import GoSem.ClaimSeven
namespace Go.Proofs.YtlmcongmglfaeaaGreatDoor
namespace Rows

/-- THE TIED CARD OF 'twinspanlaw18.CorePlays'. -/
def corePlaysCard : Claim7 := { stood := { row := corePlaysRow, standIns := [], harness := (true, "2102ef90561a448b204c360a42224e1119c29d4ba351f7e2db7e22195b457b9d"), looks := false }, kinds := [], alts := [], laidByText := true, laidKinds := [.data, .data, .data, .pinned], laidTests := true, laidLooks := .later }
def CorePlaysCardSaid : Prop := Claim7.holds Tryz.pinned (.plain (OpenSpec.ofChange corePlaysSpec)) corePlaysCard

/-- THE TIED CARD OF 'twinspanlaw18.CoreAsks'. -/
def coreAsksCard : Claim7 := { stood := { row := coreAsksRow, standIns := [], harness := (true, "2102ef90561a448b204c360a42224e1119c29d4ba351f7e2db7e22195b457b9d"), looks := false }, kinds := [], alts := [], laidByText := true, laidKinds := [.data, .data, .data, .pinned], laidTests := true, laidLooks := .later }
def CoreAsksCardSaid : Prop := Claim7.holds Tryz.pinned (.plain (OpenSpec.ofChange coreAsksSpec)) coreAsksCard

/-- THE TIED CARD OF 'twinspanlaw18.CoreNext'. -/
def coreNextCard : Claim7 := { stood := { row := coreNextRow, standIns := [], harness := (true, "2102ef90561a448b204c360a42224e1119c29d4ba351f7e2db7e22195b457b9d"), looks := false }, kinds := [], alts := [], laidByText := true, laidKinds := [.data, .data, .data, .pinned], laidTests := true, laidLooks := .later }
def CoreNextCardSaid : Prop := Claim7.holds Tryz.pinned (.plain (OpenSpec.ofChange coreNextSpec)) coreNextCard

/-- THE TIED CARD OF 'twinspanlaw18.CoreBytes'. -/
def coreBytesCard : Claim7 := { stood := { row := coreBytesRow, standIns := [], harness := (true, "2102ef90561a448b204c360a42224e1119c29d4ba351f7e2db7e22195b457b9d"), looks := false }, kinds := [], alts := [], laidByText := true, laidKinds := [.data, .data, .data, .pinned], laidTests := true, laidLooks := .later }
def CoreBytesCardSaid : Prop := Claim7.holds Tryz.pinned (.plain (OpenSpec.ofChange coreBytesSpec)) coreBytesCard

/-- THE SECOND FORM's CARD OF 'twinspanlaw18.CorePlays'. -/
def corePlaysUptoCard : Claim7 := { stood := { row := corePlaysUptoRow, standIns := [], harness := (true, "2102ef90561a448b204c360a42224e1119c29d4ba351f7e2db7e22195b457b9d"), looks := false }, kinds := [], alts := [], laidByText := true, laidKinds := [.data, .data, .data, .pinned], laidTests := true, laidLooks := .later }
def CorePlaysUptoCardSaid : Prop := Claim7.holds Tryz.pinned (.plain (OpenSpec.upto corePlaysSpec)) corePlaysUptoCard

/-- THE SECOND FORM's CARD OF 'twinspanlaw18.CoreAsks'. -/
def coreAsksUptoCard : Claim7 := { stood := { row := coreAsksUptoRow, standIns := [], harness := (true, "2102ef90561a448b204c360a42224e1119c29d4ba351f7e2db7e22195b457b9d"), looks := false }, kinds := [], alts := [], laidByText := true, laidKinds := [.data, .data, .data, .pinned], laidTests := true, laidLooks := .later }
def CoreAsksUptoCardSaid : Prop := Claim7.holds Tryz.pinned (.plain (OpenSpec.upto coreAsksSpec)) coreAsksUptoCard

/-- THE SECOND FORM's CARD OF 'twinspanlaw18.CoreNext'. -/
def coreNextUptoCard : Claim7 := { stood := { row := coreNextUptoRow, standIns := [], harness := (true, "2102ef90561a448b204c360a42224e1119c29d4ba351f7e2db7e22195b457b9d"), looks := false }, kinds := [], alts := [], laidByText := true, laidKinds := [.data, .data, .data, .pinned], laidTests := true, laidLooks := .later }
def CoreNextUptoCardSaid : Prop := Claim7.holds Tryz.pinned (.plain (OpenSpec.upto coreNextSpec)) coreNextUptoCard

/-- THE SECOND FORM's CARD OF 'twinspanlaw18.CoreBytes'. -/
def coreBytesUptoCard : Claim7 := { stood := { row := coreBytesUptoRow, standIns := [], harness := (true, "2102ef90561a448b204c360a42224e1119c29d4ba351f7e2db7e22195b457b9d"), looks := false }, kinds := [], alts := [], laidByText := true, laidKinds := [.data, .data, .data, .pinned], laidTests := true, laidLooks := .later }
def CoreBytesUptoCardSaid : Prop := Claim7.holds Tryz.pinned (.plain (OpenSpec.upto coreBytesSpec)) coreBytesUptoCard
end Rows
end Go.Proofs.YtlmcongmglfaeaaGreatDoor
