/- . -/
import Derived.Test.YtgcmdlboancepaaGreatDoorCards
import Derived.Test.YtgcmdlboancepaaGreatDoorTie
import Derived.Test.YtgcmdlboancepaaGreatDoorQ17
namespace Go.Proofs.YtgcmdlboancepaaGreatDoor.relayBoth
open Go Go.ChangeShapes Go.WideShapes Go.ChangeAt Go.RowKit Tw Av Go.Proofs.Z
set_option maxRecDepth 100000
theorem jf0:(Rows.relayBothRow.wf (OpenSpec.ofChange (OpenSpec.ofChange Rows.relayBothSpec).bare))=true:=by kernel_rfl
theorem jf3:(Tryz.f4.params.all (Tryz.pinned.checked.prog.readableRec ·))=true:=by kernel_rfl
theorem jf4:(namedTie Tryz.pinned.checked.prog Rows.relayBothRow.named (OpenSpec.ofChange Rows.relayBothSpec).bare.vars)=true:=by kernel_rfl
theorem jf5:((Rows.relayBothRow.stops == []))=true:=by kernel_rfl
theorem jf7:((Rows.relayBothRow.knobs == []))=true:=by kernel_rfl
theorem jf9:((Rows.relayBothRow.inPlace == Tryz.pinned.checked.prog.inPlace 4))=true:=by kernel_rfl
theorem jf10:((Rows.relayBothRow.unfollowed == Tryz.pinned.checked.prog.unfollowed 4))=true:=by kernel_rfl
theorem jf11:((Rows.relayBothRow.recurses == Tryz.pinned.checked.prog.recurses 4))=true:=by kernel_rfl
theorem jf12:((Rows.relayBothRow.named == Tryz.pinned.checked.prog.varsNamed 4))=true:=by kernel_rfl
theorem jf13:((Rows.relayBothRow.maps == (Tryz.f4.params.toList++(OpenSpec.ofChange Rows.relayBothSpec).bare.plain.varTypes Tryz.pinned.checked.prog).any (Tryz.pinned.checked.prog.mapsRec ·)))=true:=by kernel_rfl
theorem jf14:((Rows.relayBothRow.ifaces == (Tryz.f4.params.toList++(OpenSpec.ofChange Rows.relayBothSpec).bare.plain.varTypes Tryz.pinned.checked.prog).any (Tryz.pinned.checked.prog.ifacesRec ·)))=true:=by kernel_rfl
theorem jf15:((Rows.relayBothRow.mapsOut == Tryz.pinned.checked.prog.mapsAmong Tryz.f4.resultTypes.toList))=true:=by kernel_rfl
theorem jf16:((Rows.relayBothRow.loops == (Tryz.f4.params.toList++(OpenSpec.ofChange Rows.relayBothSpec).bare.plain.varTypes Tryz.pinned.checked.prog).any (Tryz.pinned.checked.prog.loopsFrom ·)))=true:=by kernel_rfl
theorem jf17:((Rows.relayBothRow.wideKeys == (Tryz.f4.params.toList++(OpenSpec.ofChange Rows.relayBothSpec).bare.plain.varTypes Tryz.pinned.checked.prog++Tryz.f4.resultTypes.toList).any (Tryz.pinned.checked.prog.wideKeysFrom ·)))=true:=by kernel_rfl
theorem jf18:((OpenSpec.ofChange Rows.relayBothSpec).bare.vars.all (Tryz.pinned.checked.prog.varReadable ·))=true:=by kernel_rfl
theorem jf19:(Tryz.f4.resultTypes.all (λt=>Tryz.pinned.checked.prog.readableRec t && decide (t < Tryz.pinned.checked.prog.types.size)))=true:=by kernel_rfl
theorem jf20:((Rows.relayBothRow.ifacesOut == Tryz.f4.resultTypes.toList.any (Tryz.pinned.checked.prog.ifacesRec ·)))=true:=by kernel_rfl
theorem jf21:((Rows.relayBothRow.loopsOut == Tryz.f4.resultTypes.toList.any (Tryz.pinned.checked.prog.loopsFrom ·)))=true:=by kernel_rfl
theorem jf22:((Rows.relayBothRow.plainKeys == Tryz.pinned.checked.prog.plainKeys))=true:=by kernel_rfl
theorem jf23:(Rows.relayBothRow.shortTexts.isNone)=true:=by kernel_rfl
theorem jf26:((Rows.relayBothRow.lifted == Tryz.pinned.checked.prog.liftsFinal))=true:=by kernel_rfl
theorem jf27:((Tryz.pinned.checked.prog.make == some Rows.relayBothRow.make))=true:=by kernel_rfl
theorem jf28:((Rows.relayBothRow.kinds == (if Rows.relayBothRow.domain.isEmpty then [] else Tryz.f4.params.toList.map λt=>match Tryz.pinned.checked.prog.underlying t with|some (.int k)=>some k|_=>none)))=true:=by kernel_rfl
theorem jf29:((Rows.relayBothRow.pinned == Rows.relayBothRow.pinnedBy))=true:=by kernel_rfl
theorem jf30:((Rows.relayBothRow.veiled == (Tryz.f4.params.toList++(OpenSpec.ofChange Rows.relayBothSpec).bare.plain.varTypes Tryz.pinned.checked.prog++Tryz.f4.resultTypes.toList).any (Tryz.pinned.checked.prog.veiledRec ·)))=true:=by kernel_rfl
theorem jf31:(Rows.relayBothRow.veiledFits Tryz.pinned.checked.prog Tryz.f4.params.toList (Tryz.f4.params.toList++(OpenSpec.ofChange Rows.relayBothSpec).bare.plain.varTypes Tryz.pinned.checked.prog++Tryz.f4.resultTypes.toList))=true:=by kernel_rfl
theorem closed:joinedFacts Tryz.pinned.checked.prog 4 Tryz.f4 (OpenSpec.ofChange Rows.relayBothSpec).bare Rows.relayBothRow=true:=by
 unfold joinedFacts
 exact (J9 (J9 (J9 (J9 (J9 (J9 (J9 (J9 (J9 (J9 (J9 (J9 (J9 (J9 (J9 (J9 (J9 (J9 (J9 (J9 (J9 (J9 (J9 (J9 (J9 (J9 (J9 (J9 (J9 (J9 (J9 jf0 laidOut) Sv) jf3) jf4) jf5) Su) jf7) Sw) jf9) jf10) jf11) jf12) jf13) jf14) jf15) jf16) jf17) jf18) jf19) jf20) jf21) jf22) jf23) Sy) Sz) jf26) jf27) jf28) jf29) jf30) jf31)
end Go.Proofs.YtgcmdlboancepaaGreatDoor.relayBoth
