/- . -/
import Derived.Test.YtgcmdlboancepaaGreatDoorCards
import Derived.Test.YtgcmdlboancepaaGreatDoorTie
import Derived.Test.YtgcmdlboancepaaGreatDoorQ17
namespace Go.Proofs.YtgcmdlboancepaaGreatDoor.relayPlays
open Go Go.ChangeShapes Go.WideShapes Go.ChangeAt Go.RowKit Tw Av Go.Proofs.Z
set_option maxRecDepth 100000
theorem jf0:(Rows.relayPlaysRow.wf (OpenSpec.ofChange (OpenSpec.ofChange Rows.relayPlaysSpec).bare))=true:=by kernel_rfl
theorem jf3:(Tryz.f3.params.all (Tryz.pinned.checked.prog.readableRec ·))=true:=by kernel_rfl
theorem jf4:(namedTie Tryz.pinned.checked.prog Rows.relayPlaysRow.named (OpenSpec.ofChange Rows.relayPlaysSpec).bare.vars)=true:=by kernel_rfl
theorem jf5:((Rows.relayPlaysRow.stops == []))=true:=by kernel_rfl
theorem jf7:((Rows.relayPlaysRow.knobs == []))=true:=by kernel_rfl
theorem jf9:((Rows.relayPlaysRow.inPlace == Tryz.pinned.checked.prog.inPlace 3))=true:=by kernel_rfl
theorem jf10:((Rows.relayPlaysRow.unfollowed == Tryz.pinned.checked.prog.unfollowed 3))=true:=by kernel_rfl
theorem jf11:((Rows.relayPlaysRow.recurses == Tryz.pinned.checked.prog.recurses 3))=true:=by kernel_rfl
theorem jf12:((Rows.relayPlaysRow.named == Tryz.pinned.checked.prog.varsNamed 3))=true:=by kernel_rfl
theorem jf13:((Rows.relayPlaysRow.maps == (Tryz.f3.params.toList++(OpenSpec.ofChange Rows.relayPlaysSpec).bare.plain.varTypes Tryz.pinned.checked.prog).any (Tryz.pinned.checked.prog.mapsRec ·)))=true:=by kernel_rfl
theorem jf14:((Rows.relayPlaysRow.ifaces == (Tryz.f3.params.toList++(OpenSpec.ofChange Rows.relayPlaysSpec).bare.plain.varTypes Tryz.pinned.checked.prog).any (Tryz.pinned.checked.prog.ifacesRec ·)))=true:=by kernel_rfl
theorem jf15:((Rows.relayPlaysRow.mapsOut == Tryz.pinned.checked.prog.mapsAmong Tryz.f3.resultTypes.toList))=true:=by kernel_rfl
theorem jf16:((Rows.relayPlaysRow.loops == (Tryz.f3.params.toList++(OpenSpec.ofChange Rows.relayPlaysSpec).bare.plain.varTypes Tryz.pinned.checked.prog).any (Tryz.pinned.checked.prog.loopsFrom ·)))=true:=by kernel_rfl
theorem jf17:((Rows.relayPlaysRow.wideKeys == (Tryz.f3.params.toList++(OpenSpec.ofChange Rows.relayPlaysSpec).bare.plain.varTypes Tryz.pinned.checked.prog++Tryz.f3.resultTypes.toList).any (Tryz.pinned.checked.prog.wideKeysFrom ·)))=true:=by kernel_rfl
theorem jf18:((OpenSpec.ofChange Rows.relayPlaysSpec).bare.vars.all (Tryz.pinned.checked.prog.varReadable ·))=true:=by kernel_rfl
theorem jf19:(Tryz.f3.resultTypes.all (λt=>Tryz.pinned.checked.prog.readableRec t && decide (t < Tryz.pinned.checked.prog.types.size)))=true:=by kernel_rfl
theorem jf20:((Rows.relayPlaysRow.ifacesOut == Tryz.f3.resultTypes.toList.any (Tryz.pinned.checked.prog.ifacesRec ·)))=true:=by kernel_rfl
theorem jf21:((Rows.relayPlaysRow.loopsOut == Tryz.f3.resultTypes.toList.any (Tryz.pinned.checked.prog.loopsFrom ·)))=true:=by kernel_rfl
theorem jf22:((Rows.relayPlaysRow.plainKeys == Tryz.pinned.checked.prog.plainKeys))=true:=by kernel_rfl
theorem jf23:(Rows.relayPlaysRow.shortTexts.isNone)=true:=by kernel_rfl
theorem jf26:((Rows.relayPlaysRow.lifted == Tryz.pinned.checked.prog.liftsFinal))=true:=by kernel_rfl
theorem jf27:((Tryz.pinned.checked.prog.make == some Rows.relayPlaysRow.make))=true:=by kernel_rfl
theorem jf28:((Rows.relayPlaysRow.kinds == (if Rows.relayPlaysRow.domain.isEmpty then [] else Tryz.f3.params.toList.map λt=>match Tryz.pinned.checked.prog.underlying t with|some (.int k)=>some k|_=>none)))=true:=by kernel_rfl
theorem jf29:((Rows.relayPlaysRow.pinned == Rows.relayPlaysRow.pinnedBy))=true:=by kernel_rfl
theorem jf30:((Rows.relayPlaysRow.veiled == (Tryz.f3.params.toList++(OpenSpec.ofChange Rows.relayPlaysSpec).bare.plain.varTypes Tryz.pinned.checked.prog++Tryz.f3.resultTypes.toList).any (Tryz.pinned.checked.prog.veiledRec ·)))=true:=by kernel_rfl
theorem jf31:(Rows.relayPlaysRow.veiledFits Tryz.pinned.checked.prog Tryz.f3.params.toList (Tryz.f3.params.toList++(OpenSpec.ofChange Rows.relayPlaysSpec).bare.plain.varTypes Tryz.pinned.checked.prog++Tryz.f3.resultTypes.toList))=true:=by kernel_rfl
theorem closed:joinedFacts Tryz.pinned.checked.prog 3 Tryz.f3 (OpenSpec.ofChange Rows.relayPlaysSpec).bare Rows.relayPlaysRow=true:=by
 unfold joinedFacts
 exact (J9 (J9 (J9 (J9 (J9 (J9 (J9 (J9 (J9 (J9 (J9 (J9 (J9 (J9 (J9 (J9 (J9 (J9 (J9 (J9 (J9 (J9 (J9 (J9 (J9 (J9 (J9 (J9 (J9 (J9 (J9 jf0 laidOut) Sv) jf3) jf4) jf5) Su) jf7) Sw) jf9) jf10) jf11) jf12) jf13) jf14) jf15) jf16) jf17) jf18) jf19) jf20) jf21) jf22) jf23) Sy) Sz) jf26) jf27) jf28) jf29) jf30) jf31)
end Go.Proofs.YtgcmdlboancepaaGreatDoor.relayPlays
