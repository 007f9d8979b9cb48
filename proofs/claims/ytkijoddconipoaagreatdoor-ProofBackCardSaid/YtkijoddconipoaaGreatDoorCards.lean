/-
  DERIVED. GIVEN WITH THE SEED: THE CARDS: each row of YtkijoddconipoaaGreatDoorRows.lean that lists a variable, with what it lists TIED to the program's text (the seventh form; the later family's looks); each row that meets fmt, with fmt's text TOLD by the authors' own Lean function (tested against real Go, not proved from fmt's source: count such statements apart). THE CARD IS WHAT COUNTS. Prove the row's statement (the work); the ties are given (YtkijoddconipoaaGreatDoorTie.lean); close each card by the builder's one call (the guide's Derived/Test/ToyasCard.lean, 'card_holds'). Laid BY PROGRAM, IN A SANDBOX (cutbox-door.mjs). By AI agents, Wed Nov 11 2026. No macro, syntax, notation, axiom, sorry.
-/
import Derived.Test.YtkijoddconipoaaGreatDoorRows
import GoSem.ClaimSeven
namespace Go.Proofs.YtkijoddconipoaaGreatDoor
namespace Rows

/-- THE TIED CARD OF 'twinspanlaw14.ClientBytes'. -/
def clientBytesCard : Claim7 := { stood := { row := clientBytesRow, standIns := [], harness := (true, "9215f76240caa301b29be80c266de71f9c237720c246db35c0977b9be32fecf3"), looks := false }, kinds := [], alts := [], laidByText := true, laidKinds := [.data, .data], laidTests := true, laidLooks := .later }
def ClientBytesCardSaid : Prop := Claim7.holds Tryz.pinned (.plain (OpenSpec.ofChange clientBytesSpec)) clientBytesCard

/-- THE TIED CARD OF 'twinspanlaw10.ProofBytes'. -/
def proofBytesCard : Claim7 := { stood := { row := proofBytesRow, standIns := [], harness := (true, "9215f76240caa301b29be80c266de71f9c237720c246db35c0977b9be32fecf3"), looks := false }, kinds := [], alts := [], laidByText := true, laidKinds := [.data, .data], laidTests := true, laidLooks := .later }
def ProofBytesCardSaid : Prop := Claim7.holds Tryz.pinned (.plain (OpenSpec.ofChange proofBytesSpec)) proofBytesCard

/-- THE TIED CARD OF 'twinspanlaw10.ProofBack'. -/
def proofBackCard : Claim7 := { stood := { row := proofBackRow, standIns := [], harness := (true, "9215f76240caa301b29be80c266de71f9c237720c246db35c0977b9be32fecf3"), looks := false }, kinds := [], alts := [], laidByText := true, laidKinds := [.data, .data], laidTests := true, laidLooks := .later }
def ProofBackCardSaid : Prop := Claim7.holds Tryz.pinned (.plain (OpenSpec.ofChange proofBackSpec)) proofBackCard

/-- THE SECOND FORM's CARD OF 'twinspanlaw14.ClientBytes'. -/
def clientBytesUptoCard : Claim7 := { stood := { row := clientBytesUptoRow, standIns := [], harness := (true, "9215f76240caa301b29be80c266de71f9c237720c246db35c0977b9be32fecf3"), looks := false }, kinds := [], alts := [], laidByText := true, laidKinds := [.data, .data], laidTests := true, laidLooks := .later }
def ClientBytesUptoCardSaid : Prop := Claim7.holds Tryz.pinned (.plain (OpenSpec.upto clientBytesSpec)) clientBytesUptoCard

/-- THE SECOND FORM's CARD OF 'twinspanlaw10.ProofBytes'. -/
def proofBytesUptoCard : Claim7 := { stood := { row := proofBytesUptoRow, standIns := [], harness := (true, "9215f76240caa301b29be80c266de71f9c237720c246db35c0977b9be32fecf3"), looks := false }, kinds := [], alts := [], laidByText := true, laidKinds := [.data, .data], laidTests := true, laidLooks := .later }
def ProofBytesUptoCardSaid : Prop := Claim7.holds Tryz.pinned (.plain (OpenSpec.upto proofBytesSpec)) proofBytesUptoCard

/-- THE SECOND FORM's CARD OF 'twinspanlaw10.ProofBack'. -/
def proofBackUptoCard : Claim7 := { stood := { row := proofBackUptoRow, standIns := [], harness := (true, "9215f76240caa301b29be80c266de71f9c237720c246db35c0977b9be32fecf3"), looks := false }, kinds := [], alts := [], laidByText := true, laidKinds := [.data, .data], laidTests := true, laidLooks := .later }
def ProofBackUptoCardSaid : Prop := Claim7.holds Tryz.pinned (.plain (OpenSpec.upto proofBackSpec)) proofBackUptoCard
end Rows
end Go.Proofs.YtkijoddconipoaaGreatDoor
