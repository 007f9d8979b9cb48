/-
  DERIVED. GIVEN WITH THE SEED: THE CARDS: each row of YtkijoddconipoaaDoorRows.lean that lists a variable, with what it lists TIED to the program's text (the seventh form; the later family's looks); each row that meets fmt, with fmt's text TOLD by the authors' own Lean function (tested against real Go, not proved from fmt's source: count such statements apart). THE CARD IS WHAT COUNTS. Prove the row's statement (the work); the ties are given (YtkijoddconipoaaDoorTie.lean); close each card by the builder's one call (the guide's Derived/Test/ToyasCard.lean, 'card_holds'). Laid BY PROGRAM, IN A SANDBOX (cutbox-door.mjs). By AI agents, Wed Nov 11 2026. No macro, syntax, notation, axiom, sorry.
-/
import Derived.Test.YtkijoddconipoaaDoorRows
import GoSem.ClaimSeven
namespace Go.Proofs.YtkijoddconipoaaDoor
namespace Rows

/-- THE TIED CARD OF 'twinspanlaw09.TreeRoots'. -/
def treeRootsCard : Claim7 := { stood := { row := treeRootsRow, standIns := [], harness := (true, "33ff13a84cd016977a049e8f737e3919049a8850eefdaf12748391dcf91f80f3"), looks := false }, kinds := [], alts := [], laidByText := true, laidKinds := [.data, .data], laidTests := true, laidLooks := .later }
def TreeRootsCardSaid : Prop := Claim7.holds Tryd.pinned (.plain (OpenSpec.ofChange treeRootsSpec)) treeRootsCard

/-- THE TIED CARD OF 'twinspanlaw09.TreeLong'. -/
def treeLongCard : Claim7 := { stood := { row := treeLongRow, standIns := [], harness := (true, "33ff13a84cd016977a049e8f737e3919049a8850eefdaf12748391dcf91f80f3"), looks := false }, kinds := [], alts := [], laidByText := true, laidKinds := [.data, .data], laidTests := true, laidLooks := .later }
def TreeLongCardSaid : Prop := Claim7.holds Tryd.pinned (.plain (OpenSpec.ofChange treeLongSpec)) treeLongCard

/-- THE TIED CARD OF 'twinspanlaw09.TreeWays'. -/
def treeWaysCard : Claim7 := { stood := { row := treeWaysRow, standIns := [], harness := (true, "33ff13a84cd016977a049e8f737e3919049a8850eefdaf12748391dcf91f80f3"), looks := false }, kinds := [], alts := [], laidByText := true, laidKinds := [.data, .data], laidTests := true, laidLooks := .later }
def TreeWaysCardSaid : Prop := Claim7.holds Tryd.pinned (.plain (OpenSpec.ofChange treeWaysSpec)) treeWaysCard

/-- THE TIED CARD OF 'twinspanlaw09.TreeFolds'. -/
def treeFoldsCard : Claim7 := { stood := { row := treeFoldsRow, standIns := [], harness := (true, "33ff13a84cd016977a049e8f737e3919049a8850eefdaf12748391dcf91f80f3"), looks := false }, kinds := [], alts := [], laidByText := true, laidKinds := [.data, .data], laidTests := true, laidLooks := .later }
def TreeFoldsCardSaid : Prop := Claim7.holds Tryd.pinned (.plain (OpenSpec.ofChange treeFoldsSpec)) treeFoldsCard

/-- THE TIED CARD OF 'twinspanlaw09.TreeSmall'. -/
def treeSmallCard : Claim7 := { stood := { row := treeSmallRow, standIns := [], harness := (true, "33ff13a84cd016977a049e8f737e3919049a8850eefdaf12748391dcf91f80f3"), looks := false }, kinds := [], alts := [], laidByText := true, laidKinds := [.data, .data], laidTests := true, laidLooks := .later }
def TreeSmallCardSaid : Prop := Claim7.holds Tryd.pinned (.plain (OpenSpec.ofChange treeSmallSpec)) treeSmallCard

/-- THE TIED CARD OF 'twinspanlaw14.ClientFrozen'. -/
def clientFrozenCard : Claim7 := { stood := { row := clientFrozenRow, standIns := [], harness := (true, "33ff13a84cd016977a049e8f737e3919049a8850eefdaf12748391dcf91f80f3"), looks := false }, kinds := [], alts := [], laidByText := true, laidKinds := [.data, .data], laidTests := true, laidLooks := .later }
def ClientFrozenCardSaid : Prop := Claim7.holds Tryd.pinned (.plain (OpenSpec.ofChange clientFrozenSpec)) clientFrozenCard

/-- THE TIED CARD OF 'twinspanlaw14.ClientEither'. -/
def clientEitherCard : Claim7 := { stood := { row := clientEitherRow, standIns := [], harness := (true, "33ff13a84cd016977a049e8f737e3919049a8850eefdaf12748391dcf91f80f3"), looks := false }, kinds := [], alts := [], laidByText := true, laidKinds := [.data, .data], laidTests := true, laidLooks := .later }
def ClientEitherCardSaid : Prop := Claim7.holds Tryd.pinned (.plain (OpenSpec.ofChange clientEitherSpec)) clientEitherCard

/-- THE TIED CARD OF 'twinspanlaw14.ClientPlays'. -/
def clientPlaysCard : Claim7 := { stood := { row := clientPlaysRow, standIns := [], harness := (true, "33ff13a84cd016977a049e8f737e3919049a8850eefdaf12748391dcf91f80f3"), looks := false }, kinds := [], alts := [], laidByText := true, laidKinds := [.data, .data], laidTests := true, laidLooks := .later }
def ClientPlaysCardSaid : Prop := Claim7.holds Tryd.pinned (.plain (OpenSpec.ofChange clientPlaysSpec)) clientPlaysCard

/-- THE TIED CARD OF 'twinspanlaw14.ClientHonest'. -/
def clientHonestCard : Claim7 := { stood := { row := clientHonestRow, standIns := [], harness := (true, "33ff13a84cd016977a049e8f737e3919049a8850eefdaf12748391dcf91f80f3"), looks := false }, kinds := [], alts := [], laidByText := true, laidKinds := [.data, .data], laidTests := true, laidLooks := .later }
def ClientHonestCardSaid : Prop := Claim7.holds Tryd.pinned (.plain (OpenSpec.ofChange clientHonestSpec)) clientHonestCard

/-- THE TIED CARD OF 'twinspanlaw14.ClientFull'. -/
def clientFullCard : Claim7 := { stood := { row := clientFullRow, standIns := [], harness := (true, "33ff13a84cd016977a049e8f737e3919049a8850eefdaf12748391dcf91f80f3"), looks := false }, kinds := [], alts := [], laidByText := true, laidKinds := [.data, .data], laidTests := true, laidLooks := .later }
def ClientFullCardSaid : Prop := Claim7.holds Tryd.pinned (.plain (OpenSpec.ofChange clientFullSpec)) clientFullCard

/-- THE TIED CARD OF 'twinspanlaw09.TreeLeads'. -/
def treeLeadsCard : Claim7 := { stood := { row := treeLeadsRow, standIns := [], harness := (true, "33ff13a84cd016977a049e8f737e3919049a8850eefdaf12748391dcf91f80f3"), looks := false }, kinds := [], alts := [], laidByText := true, laidKinds := [.data, .data], laidTests := true, laidLooks := .later }
def TreeLeadsCardSaid : Prop := Claim7.holds Tryd.pinned (.plain (OpenSpec.ofChange treeLeadsSpec)) treeLeadsCard

/-- THE TIED CARD OF 'twinspanlaw09.TreeSame'. -/
def treeSameCard : Claim7 := { stood := { row := treeSameRow, standIns := [], harness := (true, "33ff13a84cd016977a049e8f737e3919049a8850eefdaf12748391dcf91f80f3"), looks := false }, kinds := [], alts := [], laidByText := true, laidKinds := [.data, .data], laidTests := true, laidLooks := .later }
def TreeSameCardSaid : Prop := Claim7.holds Tryd.pinned (.plain (OpenSpec.ofChange treeSameSpec)) treeSameCard

/-- THE TIED CARD OF 'twinspanlaw10.ProofChecks'. -/
def proofChecksCard : Claim7 := { stood := { row := proofChecksRow, standIns := [], harness := (true, "33ff13a84cd016977a049e8f737e3919049a8850eefdaf12748391dcf91f80f3"), looks := false }, kinds := [], alts := [], laidByText := true, laidKinds := [.data, .data], laidTests := true, laidLooks := .later }
def ProofChecksCardSaid : Prop := Claim7.holds Tryd.pinned (.plain (OpenSpec.ofChange proofChecksSpec)) proofChecksCard

/-- THE TIED CARD OF 'twinspanlaw10.ProofMakes'. -/
def proofMakesCard : Claim7 := { stood := { row := proofMakesRow, standIns := [], harness := (true, "33ff13a84cd016977a049e8f737e3919049a8850eefdaf12748391dcf91f80f3"), looks := false }, kinds := [], alts := [], laidByText := true, laidKinds := [.data, .data], laidTests := true, laidLooks := .later }
def ProofMakesCardSaid : Prop := Claim7.holds Tryd.pinned (.plain (OpenSpec.ofChange proofMakesSpec)) proofMakesCard

/-- THE TIED CARD OF 'twinspanlaw10.ProofRight'. -/
def proofRightCard : Claim7 := { stood := { row := proofRightRow, standIns := [], harness := (true, "33ff13a84cd016977a049e8f737e3919049a8850eefdaf12748391dcf91f80f3"), looks := false }, kinds := [], alts := [], laidByText := true, laidKinds := [.data, .data], laidTests := true, laidLooks := .later }
def ProofRightCardSaid : Prop := Claim7.holds Tryd.pinned (.plain (OpenSpec.ofChange proofRightSpec)) proofRightCard

/-- THE TIED CARD OF 'twinspanlaw10.ProofEnds'. -/
def proofEndsCard : Claim7 := { stood := { row := proofEndsRow, standIns := [], harness := (true, "33ff13a84cd016977a049e8f737e3919049a8850eefdaf12748391dcf91f80f3"), looks := false }, kinds := [], alts := [], laidByText := true, laidKinds := [.data, .data], laidTests := true, laidLooks := .later }
def ProofEndsCardSaid : Prop := Claim7.holds Tryd.pinned (.plain (OpenSpec.ofChange proofEndsSpec)) proofEndsCard

/-- THE SECOND FORM's CARD OF 'twinspanlaw09.TreeRoots'. -/
def treeRootsUptoCard : Claim7 := { stood := { row := treeRootsUptoRow, standIns := [], harness := (true, "33ff13a84cd016977a049e8f737e3919049a8850eefdaf12748391dcf91f80f3"), looks := false }, kinds := [], alts := [], laidByText := true, laidKinds := [.data, .data], laidTests := true, laidLooks := .later }
def TreeRootsUptoCardSaid : Prop := Claim7.holds Tryd.pinned (.plain (OpenSpec.upto treeRootsSpec)) treeRootsUptoCard

/-- THE SECOND FORM's CARD OF 'twinspanlaw09.TreeLong'. -/
def treeLongUptoCard : Claim7 := { stood := { row := treeLongUptoRow, standIns := [], harness := (true, "33ff13a84cd016977a049e8f737e3919049a8850eefdaf12748391dcf91f80f3"), looks := false }, kinds := [], alts := [], laidByText := true, laidKinds := [.data, .data], laidTests := true, laidLooks := .later }
def TreeLongUptoCardSaid : Prop := Claim7.holds Tryd.pinned (.plain (OpenSpec.upto treeLongSpec)) treeLongUptoCard

/-- THE SECOND FORM's CARD OF 'twinspanlaw09.TreeWays'. -/
def treeWaysUptoCard : Claim7 := { stood := { row := treeWaysUptoRow, standIns := [], harness := (true, "33ff13a84cd016977a049e8f737e3919049a8850eefdaf12748391dcf91f80f3"), looks := false }, kinds := [], alts := [], laidByText := true, laidKinds := [.data, .data], laidTests := true, laidLooks := .later }
def TreeWaysUptoCardSaid : Prop := Claim7.holds Tryd.pinned (.plain (OpenSpec.upto treeWaysSpec)) treeWaysUptoCard

/-- THE SECOND FORM's CARD OF 'twinspanlaw09.TreeFolds'. -/
def treeFoldsUptoCard : Claim7 := { stood := { row := treeFoldsUptoRow, standIns := [], harness := (true, "33ff13a84cd016977a049e8f737e3919049a8850eefdaf12748391dcf91f80f3"), looks := false }, kinds := [], alts := [], laidByText := true, laidKinds := [.data, .data], laidTests := true, laidLooks := .later }
def TreeFoldsUptoCardSaid : Prop := Claim7.holds Tryd.pinned (.plain (OpenSpec.upto treeFoldsSpec)) treeFoldsUptoCard

/-- THE SECOND FORM's CARD OF 'twinspanlaw09.TreeSmall'. -/
def treeSmallUptoCard : Claim7 := { stood := { row := treeSmallUptoRow, standIns := [], harness := (true, "33ff13a84cd016977a049e8f737e3919049a8850eefdaf12748391dcf91f80f3"), looks := false }, kinds := [], alts := [], laidByText := true, laidKinds := [.data, .data], laidTests := true, laidLooks := .later }
def TreeSmallUptoCardSaid : Prop := Claim7.holds Tryd.pinned (.plain (OpenSpec.upto treeSmallSpec)) treeSmallUptoCard

/-- THE SECOND FORM's CARD OF 'twinspanlaw14.ClientFrozen'. -/
def clientFrozenUptoCard : Claim7 := { stood := { row := clientFrozenUptoRow, standIns := [], harness := (true, "33ff13a84cd016977a049e8f737e3919049a8850eefdaf12748391dcf91f80f3"), looks := false }, kinds := [], alts := [], laidByText := true, laidKinds := [.data, .data], laidTests := true, laidLooks := .later }
def ClientFrozenUptoCardSaid : Prop := Claim7.holds Tryd.pinned (.plain (OpenSpec.upto clientFrozenSpec)) clientFrozenUptoCard

/-- THE SECOND FORM's CARD OF 'twinspanlaw14.ClientEither'. -/
def clientEitherUptoCard : Claim7 := { stood := { row := clientEitherUptoRow, standIns := [], harness := (true, "33ff13a84cd016977a049e8f737e3919049a8850eefdaf12748391dcf91f80f3"), looks := false }, kinds := [], alts := [], laidByText := true, laidKinds := [.data, .data], laidTests := true, laidLooks := .later }
def ClientEitherUptoCardSaid : Prop := Claim7.holds Tryd.pinned (.plain (OpenSpec.upto clientEitherSpec)) clientEitherUptoCard

/-- THE SECOND FORM's CARD OF 'twinspanlaw14.ClientPlays'. -/
def clientPlaysUptoCard : Claim7 := { stood := { row := clientPlaysUptoRow, standIns := [], harness := (true, "33ff13a84cd016977a049e8f737e3919049a8850eefdaf12748391dcf91f80f3"), looks := false }, kinds := [], alts := [], laidByText := true, laidKinds := [.data, .data], laidTests := true, laidLooks := .later }
def ClientPlaysUptoCardSaid : Prop := Claim7.holds Tryd.pinned (.plain (OpenSpec.upto clientPlaysSpec)) clientPlaysUptoCard

/-- THE SECOND FORM's CARD OF 'twinspanlaw14.ClientHonest'. -/
def clientHonestUptoCard : Claim7 := { stood := { row := clientHonestUptoRow, standIns := [], harness := (true, "33ff13a84cd016977a049e8f737e3919049a8850eefdaf12748391dcf91f80f3"), looks := false }, kinds := [], alts := [], laidByText := true, laidKinds := [.data, .data], laidTests := true, laidLooks := .later }
def ClientHonestUptoCardSaid : Prop := Claim7.holds Tryd.pinned (.plain (OpenSpec.upto clientHonestSpec)) clientHonestUptoCard

/-- THE SECOND FORM's CARD OF 'twinspanlaw14.ClientFull'. -/
def clientFullUptoCard : Claim7 := { stood := { row := clientFullUptoRow, standIns := [], harness := (true, "33ff13a84cd016977a049e8f737e3919049a8850eefdaf12748391dcf91f80f3"), looks := false }, kinds := [], alts := [], laidByText := true, laidKinds := [.data, .data], laidTests := true, laidLooks := .later }
def ClientFullUptoCardSaid : Prop := Claim7.holds Tryd.pinned (.plain (OpenSpec.upto clientFullSpec)) clientFullUptoCard

/-- THE SECOND FORM's CARD OF 'twinspanlaw09.TreeLeads'. -/
def treeLeadsUptoCard : Claim7 := { stood := { row := treeLeadsUptoRow, standIns := [], harness := (true, "33ff13a84cd016977a049e8f737e3919049a8850eefdaf12748391dcf91f80f3"), looks := false }, kinds := [], alts := [], laidByText := true, laidKinds := [.data, .data], laidTests := true, laidLooks := .later }
def TreeLeadsUptoCardSaid : Prop := Claim7.holds Tryd.pinned (.plain (OpenSpec.upto treeLeadsSpec)) treeLeadsUptoCard

/-- THE SECOND FORM's CARD OF 'twinspanlaw09.TreeSame'. -/
def treeSameUptoCard : Claim7 := { stood := { row := treeSameUptoRow, standIns := [], harness := (true, "33ff13a84cd016977a049e8f737e3919049a8850eefdaf12748391dcf91f80f3"), looks := false }, kinds := [], alts := [], laidByText := true, laidKinds := [.data, .data], laidTests := true, laidLooks := .later }
def TreeSameUptoCardSaid : Prop := Claim7.holds Tryd.pinned (.plain (OpenSpec.upto treeSameSpec)) treeSameUptoCard

/-- THE SECOND FORM's CARD OF 'twinspanlaw10.ProofChecks'. -/
def proofChecksUptoCard : Claim7 := { stood := { row := proofChecksUptoRow, standIns := [], harness := (true, "33ff13a84cd016977a049e8f737e3919049a8850eefdaf12748391dcf91f80f3"), looks := false }, kinds := [], alts := [], laidByText := true, laidKinds := [.data, .data], laidTests := true, laidLooks := .later }
def ProofChecksUptoCardSaid : Prop := Claim7.holds Tryd.pinned (.plain (OpenSpec.upto proofChecksSpec)) proofChecksUptoCard

/-- THE SECOND FORM's CARD OF 'twinspanlaw10.ProofMakes'. -/
def proofMakesUptoCard : Claim7 := { stood := { row := proofMakesUptoRow, standIns := [], harness := (true, "33ff13a84cd016977a049e8f737e3919049a8850eefdaf12748391dcf91f80f3"), looks := false }, kinds := [], alts := [], laidByText := true, laidKinds := [.data, .data], laidTests := true, laidLooks := .later }
def ProofMakesUptoCardSaid : Prop := Claim7.holds Tryd.pinned (.plain (OpenSpec.upto proofMakesSpec)) proofMakesUptoCard

/-- THE SECOND FORM's CARD OF 'twinspanlaw10.ProofRight'. -/
def proofRightUptoCard : Claim7 := { stood := { row := proofRightUptoRow, standIns := [], harness := (true, "33ff13a84cd016977a049e8f737e3919049a8850eefdaf12748391dcf91f80f3"), looks := false }, kinds := [], alts := [], laidByText := true, laidKinds := [.data, .data], laidTests := true, laidLooks := .later }
def ProofRightUptoCardSaid : Prop := Claim7.holds Tryd.pinned (.plain (OpenSpec.upto proofRightSpec)) proofRightUptoCard

/-- THE SECOND FORM's CARD OF 'twinspanlaw10.ProofEnds'. -/
def proofEndsUptoCard : Claim7 := { stood := { row := proofEndsUptoRow, standIns := [], harness := (true, "33ff13a84cd016977a049e8f737e3919049a8850eefdaf12748391dcf91f80f3"), looks := false }, kinds := [], alts := [], laidByText := true, laidKinds := [.data, .data], laidTests := true, laidLooks := .later }
def ProofEndsUptoCardSaid : Prop := Claim7.holds Tryd.pinned (.plain (OpenSpec.upto proofEndsSpec)) proofEndsUptoCard
end Rows
end Go.Proofs.YtkijoddconipoaaDoor
