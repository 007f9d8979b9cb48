/- . -/
import Derived.Test.YtcdbijbhifhkeaaGreatDoorCards
import Derived.Test.YtcdbijbhifhkeaaGreatDoorTie
import Derived.Test.YtcdbijbhifhkeaaGreatDoorV17
namespace Go.Proofs.YtcdbijbhifhkeaaGreatDoor.spanFunds
open Go Go.ChangeShapes Go.WideShapes Go.ChangeAt Go.RowKit Tw Av Go.Proofs.Z
set_option maxRecDepth 100000
theorem jf0:(Rows.spanFundsRow.wf (OpenSpec.ofChange (OpenSpec.ofChange Rows.spanFundsSpec).bare))=true:=by kernel_rfl
theorem jf3:(Tryz.f4.params.all (Tryz.pinned.checked.prog.readableRec ·))=true:=by kernel_rfl
theorem jf4:(namedTie Tryz.pinned.checked.prog Rows.spanFundsRow.named (OpenSpec.ofChange Rows.spanFundsSpec).bare.vars)=true:=by kernel_rfl
theorem jf5:((Rows.spanFundsRow.stops == []))=true:=by kernel_rfl
theorem jf7:((Rows.spanFundsRow.knobs == []))=true:=by kernel_rfl
theorem jf9:((Rows.spanFundsRow.inPlace == Tryz.pinned.checked.prog.inPlace 4))=true:=by kernel_rfl
theorem jf10:((Rows.spanFundsRow.unfollowed == Tryz.pinned.checked.prog.unfollowed 4))=true:=by kernel_rfl
theorem jf11:((Rows.spanFundsRow.recurses == Tryz.pinned.checked.prog.recurses 4))=true:=by kernel_rfl
theorem jf12:((Rows.spanFundsRow.named == Tryz.pinned.checked.prog.varsNamed 4))=true:=by kernel_rfl
theorem jf13:((Rows.spanFundsRow.maps == (Tryz.f4.params.toList++(OpenSpec.ofChange Rows.spanFundsSpec).bare.plain.varTypes Tryz.pinned.checked.prog).any (Tryz.pinned.checked.prog.mapsRec ·)))=true:=by kernel_rfl
theorem jf14:((Rows.spanFundsRow.ifaces == (Tryz.f4.params.toList++(OpenSpec.ofChange Rows.spanFundsSpec).bare.plain.varTypes Tryz.pinned.checked.prog).any (Tryz.pinned.checked.prog.ifacesRec ·)))=true:=by kernel_rfl
theorem jf15:((Rows.spanFundsRow.mapsOut == Tryz.pinned.checked.prog.mapsAmong Tryz.f4.resultTypes.toList))=true:=by kernel_rfl
theorem jf16:((Rows.spanFundsRow.loops == (Tryz.f4.params.toList++(OpenSpec.ofChange Rows.spanFundsSpec).bare.plain.varTypes Tryz.pinned.checked.prog).any (Tryz.pinned.checked.prog.loopsFrom ·)))=true:=by kernel_rfl
theorem jf17:((Rows.spanFundsRow.wideKeys == (Tryz.f4.params.toList++(OpenSpec.ofChange Rows.spanFundsSpec).bare.plain.varTypes Tryz.pinned.checked.prog++Tryz.f4.resultTypes.toList).any (Tryz.pinned.checked.prog.wideKeysFrom ·)))=true:=by kernel_rfl
theorem jf18:((OpenSpec.ofChange Rows.spanFundsSpec).bare.vars.all (Tryz.pinned.checked.prog.varReadable ·))=true:=by kernel_rfl
theorem jf19:(Tryz.f4.resultTypes.all (λt=>Tryz.pinned.checked.prog.readableRec t && decide (t < Tryz.pinned.checked.prog.types.size)))=true:=by kernel_rfl
theorem jf20:((Rows.spanFundsRow.ifacesOut == Tryz.f4.resultTypes.toList.any (Tryz.pinned.checked.prog.ifacesRec ·)))=true:=by kernel_rfl
theorem jf21:((Rows.spanFundsRow.loopsOut == Tryz.f4.resultTypes.toList.any (Tryz.pinned.checked.prog.loopsFrom ·)))=true:=by kernel_rfl
theorem jf22:((Rows.spanFundsRow.plainKeys == Tryz.pinned.checked.prog.plainKeys))=true:=by kernel_rfl
theorem jf23:(Rows.spanFundsRow.shortTexts.isNone)=true:=by kernel_rfl
theorem jf26:((Rows.spanFundsRow.lifted == Tryz.pinned.checked.prog.liftsFinal))=true:=by kernel_rfl
theorem jf27:((Tryz.pinned.checked.prog.make == some Rows.spanFundsRow.make))=true:=by kernel_rfl
theorem jf28:((Rows.spanFundsRow.kinds == (if Rows.spanFundsRow.domain.isEmpty then [] else Tryz.f4.params.toList.map λt=>match Tryz.pinned.checked.prog.underlying t with|some (.int k)=>some k|_=>none)))=true:=by kernel_rfl
theorem jf29:((Rows.spanFundsRow.pinned == Rows.spanFundsRow.pinnedBy))=true:=by kernel_rfl
theorem jf30:((Rows.spanFundsRow.veiled == (Tryz.f4.params.toList++(OpenSpec.ofChange Rows.spanFundsSpec).bare.plain.varTypes Tryz.pinned.checked.prog++Tryz.f4.resultTypes.toList).any (Tryz.pinned.checked.prog.veiledRec ·)))=true:=by kernel_rfl
theorem jf31:(Rows.spanFundsRow.veiledFits Tryz.pinned.checked.prog Tryz.f4.params.toList (Tryz.f4.params.toList++(OpenSpec.ofChange Rows.spanFundsSpec).bare.plain.varTypes Tryz.pinned.checked.prog++Tryz.f4.resultTypes.toList))=true:=by kernel_rfl
theorem closed:joinedFacts Tryz.pinned.checked.prog 4 Tryz.f4 (OpenSpec.ofChange Rows.spanFundsSpec).bare Rows.spanFundsRow=true:=by
 unfold joinedFacts
 exact (o9 (o9 (o9 (o9 (o9 (o9 (o9 (o9 (o9 (o9 (o9 (o9 (o9 (o9 (o9 (o9 (o9 (o9 (o9 (o9 (o9 (o9 (o9 (o9 (o9 (o9 (o9 (o9 (o9 (o9 (o9 jf0 laidOut) KX) jf3) jf4) jf5) KW) jf7) KY) jf9) jf10) jf11) jf12) jf13) jf14) jf15) jf16) jf17) jf18) jf19) jf20) jf21) jf22) jf23) KZ) LA) jf26) jf27) jf28) jf29) jf30) jf31)
end Go.Proofs.YtcdbijbhifhkeaaGreatDoor.spanFunds
