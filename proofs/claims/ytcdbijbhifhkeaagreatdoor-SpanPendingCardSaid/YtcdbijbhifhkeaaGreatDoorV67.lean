/- . -/
import Derived.Test.YtcdbijbhifhkeaaGreatDoorCards
import Derived.Test.YtcdbijbhifhkeaaGreatDoorTie
import Derived.Test.YtcdbijbhifhkeaaGreatDoorV17
namespace Go.Proofs.YtcdbijbhifhkeaaGreatDoor.spanPending
open Go Go.ChangeShapes Go.WideShapes Go.ChangeAt Go.RowKit Tw Av Go.Proofs.Z
set_option maxRecDepth 100000
theorem jf0:(Rows.spanPendingRow.wf (OpenSpec.ofChange (OpenSpec.ofChange Rows.spanPendingSpec).bare))=true:=by kernel_rfl
theorem jf3:(Tryz.f5.params.all (Tryz.pinned.checked.prog.readableRec ·))=true:=by kernel_rfl
theorem jf4:(namedTie Tryz.pinned.checked.prog Rows.spanPendingRow.named (OpenSpec.ofChange Rows.spanPendingSpec).bare.vars)=true:=by kernel_rfl
theorem jf5:((Rows.spanPendingRow.stops == []))=true:=by kernel_rfl
theorem jf7:((Rows.spanPendingRow.knobs == []))=true:=by kernel_rfl
theorem jf9:((Rows.spanPendingRow.inPlace == Tryz.pinned.checked.prog.inPlace 5))=true:=by kernel_rfl
theorem jf10:((Rows.spanPendingRow.unfollowed == Tryz.pinned.checked.prog.unfollowed 5))=true:=by kernel_rfl
theorem jf11:((Rows.spanPendingRow.recurses == Tryz.pinned.checked.prog.recurses 5))=true:=by kernel_rfl
theorem jf12:((Rows.spanPendingRow.named == Tryz.pinned.checked.prog.varsNamed 5))=true:=by kernel_rfl
theorem jf13:((Rows.spanPendingRow.maps == (Tryz.f5.params.toList++(OpenSpec.ofChange Rows.spanPendingSpec).bare.plain.varTypes Tryz.pinned.checked.prog).any (Tryz.pinned.checked.prog.mapsRec ·)))=true:=by kernel_rfl
theorem jf14:((Rows.spanPendingRow.ifaces == (Tryz.f5.params.toList++(OpenSpec.ofChange Rows.spanPendingSpec).bare.plain.varTypes Tryz.pinned.checked.prog).any (Tryz.pinned.checked.prog.ifacesRec ·)))=true:=by kernel_rfl
theorem jf15:((Rows.spanPendingRow.mapsOut == Tryz.pinned.checked.prog.mapsAmong Tryz.f5.resultTypes.toList))=true:=by kernel_rfl
theorem jf16:((Rows.spanPendingRow.loops == (Tryz.f5.params.toList++(OpenSpec.ofChange Rows.spanPendingSpec).bare.plain.varTypes Tryz.pinned.checked.prog).any (Tryz.pinned.checked.prog.loopsFrom ·)))=true:=by kernel_rfl
theorem jf17:((Rows.spanPendingRow.wideKeys == (Tryz.f5.params.toList++(OpenSpec.ofChange Rows.spanPendingSpec).bare.plain.varTypes Tryz.pinned.checked.prog++Tryz.f5.resultTypes.toList).any (Tryz.pinned.checked.prog.wideKeysFrom ·)))=true:=by kernel_rfl
theorem jf18:((OpenSpec.ofChange Rows.spanPendingSpec).bare.vars.all (Tryz.pinned.checked.prog.varReadable ·))=true:=by kernel_rfl
theorem jf19:(Tryz.f5.resultTypes.all (λt=>Tryz.pinned.checked.prog.readableRec t && decide (t < Tryz.pinned.checked.prog.types.size)))=true:=by kernel_rfl
theorem jf20:((Rows.spanPendingRow.ifacesOut == Tryz.f5.resultTypes.toList.any (Tryz.pinned.checked.prog.ifacesRec ·)))=true:=by kernel_rfl
theorem jf21:((Rows.spanPendingRow.loopsOut == Tryz.f5.resultTypes.toList.any (Tryz.pinned.checked.prog.loopsFrom ·)))=true:=by kernel_rfl
theorem jf22:((Rows.spanPendingRow.plainKeys == Tryz.pinned.checked.prog.plainKeys))=true:=by kernel_rfl
theorem jf23:(Rows.spanPendingRow.shortTexts.isNone)=true:=by kernel_rfl
theorem jf26:((Rows.spanPendingRow.lifted == Tryz.pinned.checked.prog.liftsFinal))=true:=by kernel_rfl
theorem jf27:((Tryz.pinned.checked.prog.make == some Rows.spanPendingRow.make))=true:=by kernel_rfl
theorem jf28:((Rows.spanPendingRow.kinds == (if Rows.spanPendingRow.domain.isEmpty then [] else Tryz.f5.params.toList.map λt=>match Tryz.pinned.checked.prog.underlying t with|some (.int k)=>some k|_=>none)))=true:=by kernel_rfl
theorem jf29:((Rows.spanPendingRow.pinned == Rows.spanPendingRow.pinnedBy))=true:=by kernel_rfl
theorem jf30:((Rows.spanPendingRow.veiled == (Tryz.f5.params.toList++(OpenSpec.ofChange Rows.spanPendingSpec).bare.plain.varTypes Tryz.pinned.checked.prog++Tryz.f5.resultTypes.toList).any (Tryz.pinned.checked.prog.veiledRec ·)))=true:=by kernel_rfl
theorem jf31:(Rows.spanPendingRow.veiledFits Tryz.pinned.checked.prog Tryz.f5.params.toList (Tryz.f5.params.toList++(OpenSpec.ofChange Rows.spanPendingSpec).bare.plain.varTypes Tryz.pinned.checked.prog++Tryz.f5.resultTypes.toList))=true:=by kernel_rfl
theorem closed:joinedFacts Tryz.pinned.checked.prog 5 Tryz.f5 (OpenSpec.ofChange Rows.spanPendingSpec).bare Rows.spanPendingRow=true:=by
 unfold joinedFacts
 exact (o9 (o9 (o9 (o9 (o9 (o9 (o9 (o9 (o9 (o9 (o9 (o9 (o9 (o9 (o9 (o9 (o9 (o9 (o9 (o9 (o9 (o9 (o9 (o9 (o9 (o9 (o9 (o9 (o9 (o9 (o9 jf0 laidOut) KX) jf3) jf4) jf5) KW) jf7) KY) jf9) jf10) jf11) jf12) jf13) jf14) jf15) jf16) jf17) jf18) jf19) jf20) jf21) jf22) jf23) KZ) LA) jf26) jf27) jf28) jf29) jf30) jf31)
end Go.Proofs.YtcdbijbhifhkeaaGreatDoor.spanPending
