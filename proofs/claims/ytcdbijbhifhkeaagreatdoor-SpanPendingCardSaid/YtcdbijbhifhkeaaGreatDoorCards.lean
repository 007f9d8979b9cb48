/-
  DERIVED. GIVEN WITH THE SEED: THE CARDS: each row of YtcdbijbhifhkeaaGreatDoorRows.lean that lists a variable, with what it lists TIED to the program's text (the seventh form; the later family's looks); each row that meets fmt, with fmt's text TOLD by the authors' own Lean function (tested against real Go, not proved from fmt's source: count such statements apart). THE CARD IS WHAT COUNTS. Prove the row's statement (the work); the ties are given (YtcdbijbhifhkeaaGreatDoorTie.lean); close each card by the builder's one call (the guide's Derived/Test/ToyasCard.lean, 'card_holds'). Laid BY PROGRAM, IN A SANDBOX (cutbox-door.mjs). By AI agents, Wed Nov 11 2026. No macro, syntax, notation, axiom, sorry.
-/
import Derived.Test.YtcdbijbhifhkeaaGreatDoorRows
import GoSem.ClaimSeven
namespace Go.Proofs.YtcdbijbhifhkeaaGreatDoor
namespace Rows

/-- THE TIED CARD OF 'twinspanlaw22.SpanSends'. -/
def spanSendsCard : Claim7 := { stood := { row := spanSendsRow, standIns := [], harness := (true, "6fd714ff63702815b7946f2460b8ae763bf068f42ffe5b5f808792e57d65fc5f"), looks := false }, kinds := [], alts := [], laidByText := true, laidKinds := [.data, .data, .data, .pinned], laidTests := true, laidLooks := .later }
def SpanSendsCardSaid : Prop := Claim7.holds Tryz.pinned (.plain (OpenSpec.ofChange spanSendsSpec)) spanSendsCard

/-- THE TIED CARD OF 'twinspanlaw22.SpanFunds'. -/
def spanFundsCard : Claim7 := { stood := { row := spanFundsRow, standIns := [], harness := (true, "6fd714ff63702815b7946f2460b8ae763bf068f42ffe5b5f808792e57d65fc5f"), looks := false }, kinds := [], alts := [], laidByText := true, laidKinds := [.data, .data, .data, .pinned], laidTests := true, laidLooks := .later }
def SpanFundsCardSaid : Prop := Claim7.holds Tryz.pinned (.plain (OpenSpec.ofChange spanFundsSpec)) spanFundsCard

/-- THE TIED CARD OF 'twinspanlaw22.SpanPending'. -/
def spanPendingCard : Claim7 := { stood := { row := spanPendingRow, standIns := [], harness := (true, "6fd714ff63702815b7946f2460b8ae763bf068f42ffe5b5f808792e57d65fc5f"), looks := false }, kinds := [], alts := [], laidByText := true, laidKinds := [.data, .data, .data, .pinned], laidTests := true, laidLooks := .later }
def SpanPendingCardSaid : Prop := Claim7.holds Tryz.pinned (.plain (OpenSpec.ofChange spanPendingSpec)) spanPendingCard

/-- THE TIED CARD OF 'twinspanlaw22.SpanReplies'. -/
def spanRepliesCard : Claim7 := { stood := { row := spanRepliesRow, standIns := [], harness := (true, "6fd714ff63702815b7946f2460b8ae763bf068f42ffe5b5f808792e57d65fc5f"), looks := false }, kinds := [], alts := [], laidByText := true, laidKinds := [.data, .data, .data, .pinned], laidTests := true, laidLooks := .later }
def SpanRepliesCardSaid : Prop := Claim7.holds Tryz.pinned (.plain (OpenSpec.ofChange spanRepliesSpec)) spanRepliesCard

/-- THE TIED CARD OF 'twinspanlaw22.SpanSame'. -/
def spanSameCard : Claim7 := { stood := { row := spanSameRow, standIns := [], harness := (true, "6fd714ff63702815b7946f2460b8ae763bf068f42ffe5b5f808792e57d65fc5f"), looks := false }, kinds := [], alts := [], laidByText := true, laidKinds := [.data, .data, .data, .pinned], laidTests := true, laidLooks := .later }
def SpanSameCardSaid : Prop := Claim7.holds Tryz.pinned (.plain (OpenSpec.ofChange spanSameSpec)) spanSameCard

/-- THE TIED CARD OF 'twinspanlaw22.SpanMakes'. -/
def spanMakesCard : Claim7 := { stood := { row := spanMakesRow, standIns := [], harness := (true, "6fd714ff63702815b7946f2460b8ae763bf068f42ffe5b5f808792e57d65fc5f"), looks := false }, kinds := [], alts := [], laidByText := true, laidKinds := [.data, .data, .data, .pinned], laidTests := true, laidLooks := .later }
def SpanMakesCardSaid : Prop := Claim7.holds Tryz.pinned (.plain (OpenSpec.ofChange spanMakesSpec)) spanMakesCard

/-- THE SECOND FORM's CARD OF 'twinspanlaw22.SpanSends'. -/
def spanSendsUptoCard : Claim7 := { stood := { row := spanSendsUptoRow, standIns := [], harness := (true, "6fd714ff63702815b7946f2460b8ae763bf068f42ffe5b5f808792e57d65fc5f"), looks := false }, kinds := [], alts := [], laidByText := true, laidKinds := [.data, .data, .data, .pinned], laidTests := true, laidLooks := .later }
def SpanSendsUptoCardSaid : Prop := Claim7.holds Tryz.pinned (.plain (OpenSpec.upto spanSendsSpec)) spanSendsUptoCard

/-- THE SECOND FORM's CARD OF 'twinspanlaw22.SpanFunds'. -/
def spanFundsUptoCard : Claim7 := { stood := { row := spanFundsUptoRow, standIns := [], harness := (true, "6fd714ff63702815b7946f2460b8ae763bf068f42ffe5b5f808792e57d65fc5f"), looks := false }, kinds := [], alts := [], laidByText := true, laidKinds := [.data, .data, .data, .pinned], laidTests := true, laidLooks := .later }
def SpanFundsUptoCardSaid : Prop := Claim7.holds Tryz.pinned (.plain (OpenSpec.upto spanFundsSpec)) spanFundsUptoCard

/-- THE SECOND FORM's CARD OF 'twinspanlaw22.SpanPending'. -/
def spanPendingUptoCard : Claim7 := { stood := { row := spanPendingUptoRow, standIns := [], harness := (true, "6fd714ff63702815b7946f2460b8ae763bf068f42ffe5b5f808792e57d65fc5f"), looks := false }, kinds := [], alts := [], laidByText := true, laidKinds := [.data, .data, .data, .pinned], laidTests := true, laidLooks := .later }
def SpanPendingUptoCardSaid : Prop := Claim7.holds Tryz.pinned (.plain (OpenSpec.upto spanPendingSpec)) spanPendingUptoCard

/-- THE SECOND FORM's CARD OF 'twinspanlaw22.SpanReplies'. -/
def spanRepliesUptoCard : Claim7 := { stood := { row := spanRepliesUptoRow, standIns := [], harness := (true, "6fd714ff63702815b7946f2460b8ae763bf068f42ffe5b5f808792e57d65fc5f"), looks := false }, kinds := [], alts := [], laidByText := true, laidKinds := [.data, .data, .data, .pinned], laidTests := true, laidLooks := .later }
def SpanRepliesUptoCardSaid : Prop := Claim7.holds Tryz.pinned (.plain (OpenSpec.upto spanRepliesSpec)) spanRepliesUptoCard

/-- THE SECOND FORM's CARD OF 'twinspanlaw22.SpanSame'. -/
def spanSameUptoCard : Claim7 := { stood := { row := spanSameUptoRow, standIns := [], harness := (true, "6fd714ff63702815b7946f2460b8ae763bf068f42ffe5b5f808792e57d65fc5f"), looks := false }, kinds := [], alts := [], laidByText := true, laidKinds := [.data, .data, .data, .pinned], laidTests := true, laidLooks := .later }
def SpanSameUptoCardSaid : Prop := Claim7.holds Tryz.pinned (.plain (OpenSpec.upto spanSameSpec)) spanSameUptoCard

/-- THE SECOND FORM's CARD OF 'twinspanlaw22.SpanMakes'. -/
def spanMakesUptoCard : Claim7 := { stood := { row := spanMakesUptoRow, standIns := [], harness := (true, "6fd714ff63702815b7946f2460b8ae763bf068f42ffe5b5f808792e57d65fc5f"), looks := false }, kinds := [], alts := [], laidByText := true, laidKinds := [.data, .data, .data, .pinned], laidTests := true, laidLooks := .later }
def SpanMakesUptoCardSaid : Prop := Claim7.holds Tryz.pinned (.plain (OpenSpec.upto spanMakesSpec)) spanMakesUptoCard
end Rows
end Go.Proofs.YtcdbijbhifhkeaaGreatDoor
