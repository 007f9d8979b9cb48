/-
  DERIVED. GIVEN WITH THE SEED: THE CARDS: each row of YtndhpgclmgpmoaaGreatDoorRows.lean that lists a variable, with what it lists TIED to the program's text (the seventh form; the later family's looks); each row that meets fmt, with fmt's text TOLD by the authors' own Lean function (tested against real Go, not proved from fmt's source: count such statements apart). THE CARD IS WHAT COUNTS. Prove the row's statement (the work); the ties are given (YtndhpgclmgpmoaaGreatDoorTie.lean); close each card by the builder's one call (the guide's Derived/Test/ToyasCard.lean, 'card_holds'). Laid BY PROGRAM, IN A SANDBOX (cutbox-door.mjs). By AI agents, Wed Nov 11 2026. No macro, syntax, notation, axiom, sorry.
-/
import Derived.Test.YtndhpgclmgpmoaaGreatDoorRows
import GoSem.ClaimSeven
namespace Go.Proofs.YtndhpgclmgpmoaaGreatDoor
namespace Rows

/-- THE TIED CARD OF 'twinspanlaw20.ChainNames'. -/
def chainNamesCard : Claim7 := { stood := { row := chainNamesRow, standIns := [], harness := (true, "2120460f134ffef2e3d36ce0ab6a8ae761bc9d089b62789d4551572bcaf57b2a"), looks := false }, kinds := [], alts := [], laidByText := true, laidKinds := [.data, .data, .data, .pinned], laidTests := true, laidLooks := .later }
def ChainNamesCardSaid : Prop := Claim7.holds Tryz.pinned (.plain (OpenSpec.ofChange chainNamesSpec)) chainNamesCard

/-- THE TIED CARD OF 'twinspanlaw20.ChainTimes'. -/
def chainTimesCard : Claim7 := { stood := { row := chainTimesRow, standIns := [], harness := (true, "2120460f134ffef2e3d36ce0ab6a8ae761bc9d089b62789d4551572bcaf57b2a"), looks := false }, kinds := [], alts := [], laidByText := true, laidKinds := [.data, .data, .data, .pinned], laidTests := true, laidLooks := .later }
def ChainTimesCardSaid : Prop := Claim7.holds Tryz.pinned (.plain (OpenSpec.ofChange chainTimesSpec)) chainTimesCard

/-- THE TIED CARD OF 'twinspanlaw20.ChainFull'. -/
def chainFullCard : Claim7 := { stood := { row := chainFullRow, standIns := [], harness := (true, "2120460f134ffef2e3d36ce0ab6a8ae761bc9d089b62789d4551572bcaf57b2a"), looks := false }, kinds := [], alts := [], laidByText := true, laidKinds := [.data, .data, .data, .pinned], laidTests := true, laidLooks := .later }
def ChainFullCardSaid : Prop := Claim7.holds Tryz.pinned (.plain (OpenSpec.ofChange chainFullSpec)) chainFullCard

/-- THE TIED CARD OF 'twinspanlaw20.ChainAgain'. -/
def chainAgainCard : Claim7 := { stood := { row := chainAgainRow, standIns := [], harness := (true, "2120460f134ffef2e3d36ce0ab6a8ae761bc9d089b62789d4551572bcaf57b2a"), looks := false }, kinds := [], alts := [], laidByText := true, laidKinds := [.data, .data, .data, .pinned], laidTests := true, laidLooks := .later }
def ChainAgainCardSaid : Prop := Claim7.holds Tryz.pinned (.plain (OpenSpec.ofChange chainAgainSpec)) chainAgainCard

/-- THE TIED CARD OF 'twinspanlaw20.ChainNil'. -/
def chainNilCard : Claim7 := { stood := { row := chainNilRow, standIns := [], harness := (true, "2120460f134ffef2e3d36ce0ab6a8ae761bc9d089b62789d4551572bcaf57b2a"), looks := false }, kinds := [], alts := [], laidByText := true, laidKinds := [.data, .data, .data, .pinned], laidTests := true, laidLooks := .later }
def ChainNilCardSaid : Prop := Claim7.holds Tryz.pinned (.plain (OpenSpec.ofChange chainNilSpec)) chainNilCard

/-- THE TIED CARD OF 'twinspanlaw20.ChainWhole'. -/
def chainWholeCard : Claim7 := { stood := { row := chainWholeRow, standIns := [], harness := (true, "2120460f134ffef2e3d36ce0ab6a8ae761bc9d089b62789d4551572bcaf57b2a"), looks := false }, kinds := [], alts := [], laidByText := true, laidKinds := [.data, .data, .data, .pinned], laidTests := true, laidLooks := .later }
def ChainWholeCardSaid : Prop := Claim7.holds Tryz.pinned (.plain (OpenSpec.ofChange chainWholeSpec)) chainWholeCard

/-- THE SECOND FORM's CARD OF 'twinspanlaw20.ChainNames'. -/
def chainNamesUptoCard : Claim7 := { stood := { row := chainNamesUptoRow, standIns := [], harness := (true, "2120460f134ffef2e3d36ce0ab6a8ae761bc9d089b62789d4551572bcaf57b2a"), looks := false }, kinds := [], alts := [], laidByText := true, laidKinds := [.data, .data, .data, .pinned], laidTests := true, laidLooks := .later }
def ChainNamesUptoCardSaid : Prop := Claim7.holds Tryz.pinned (.plain (OpenSpec.upto chainNamesSpec)) chainNamesUptoCard

/-- THE SECOND FORM's CARD OF 'twinspanlaw20.ChainTimes'. -/
def chainTimesUptoCard : Claim7 := { stood := { row := chainTimesUptoRow, standIns := [], harness := (true, "2120460f134ffef2e3d36ce0ab6a8ae761bc9d089b62789d4551572bcaf57b2a"), looks := false }, kinds := [], alts := [], laidByText := true, laidKinds := [.data, .data, .data, .pinned], laidTests := true, laidLooks := .later }
def ChainTimesUptoCardSaid : Prop := Claim7.holds Tryz.pinned (.plain (OpenSpec.upto chainTimesSpec)) chainTimesUptoCard

/-- THE SECOND FORM's CARD OF 'twinspanlaw20.ChainFull'. -/
def chainFullUptoCard : Claim7 := { stood := { row := chainFullUptoRow, standIns := [], harness := (true, "2120460f134ffef2e3d36ce0ab6a8ae761bc9d089b62789d4551572bcaf57b2a"), looks := false }, kinds := [], alts := [], laidByText := true, laidKinds := [.data, .data, .data, .pinned], laidTests := true, laidLooks := .later }
def ChainFullUptoCardSaid : Prop := Claim7.holds Tryz.pinned (.plain (OpenSpec.upto chainFullSpec)) chainFullUptoCard

/-- THE SECOND FORM's CARD OF 'twinspanlaw20.ChainAgain'. -/
def chainAgainUptoCard : Claim7 := { stood := { row := chainAgainUptoRow, standIns := [], harness := (true, "2120460f134ffef2e3d36ce0ab6a8ae761bc9d089b62789d4551572bcaf57b2a"), looks := false }, kinds := [], alts := [], laidByText := true, laidKinds := [.data, .data, .data, .pinned], laidTests := true, laidLooks := .later }
def ChainAgainUptoCardSaid : Prop := Claim7.holds Tryz.pinned (.plain (OpenSpec.upto chainAgainSpec)) chainAgainUptoCard

/-- THE SECOND FORM's CARD OF 'twinspanlaw20.ChainNil'. -/
def chainNilUptoCard : Claim7 := { stood := { row := chainNilUptoRow, standIns := [], harness := (true, "2120460f134ffef2e3d36ce0ab6a8ae761bc9d089b62789d4551572bcaf57b2a"), looks := false }, kinds := [], alts := [], laidByText := true, laidKinds := [.data, .data, .data, .pinned], laidTests := true, laidLooks := .later }
def ChainNilUptoCardSaid : Prop := Claim7.holds Tryz.pinned (.plain (OpenSpec.upto chainNilSpec)) chainNilUptoCard

/-- THE SECOND FORM's CARD OF 'twinspanlaw20.ChainWhole'. -/
def chainWholeUptoCard : Claim7 := { stood := { row := chainWholeUptoRow, standIns := [], harness := (true, "2120460f134ffef2e3d36ce0ab6a8ae761bc9d089b62789d4551572bcaf57b2a"), looks := false }, kinds := [], alts := [], laidByText := true, laidKinds := [.data, .data, .data, .pinned], laidTests := true, laidLooks := .later }
def ChainWholeUptoCardSaid : Prop := Claim7.holds Tryz.pinned (.plain (OpenSpec.upto chainWholeSpec)) chainWholeUptoCard
end Rows
end Go.Proofs.YtndhpgclmgpmoaaGreatDoor
