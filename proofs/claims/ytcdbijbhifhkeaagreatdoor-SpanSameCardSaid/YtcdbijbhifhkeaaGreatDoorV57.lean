/- . -/
import Derived.Test.YtcdbijbhifhkeaaGreatDoorCards
import Derived.Test.YtcdbijbhifhkeaaGreatDoorTie
import Derived.Test.YtcdbijbhifhkeaaGreatDoorV17
namespace Go.Proofs.YtcdbijbhifhkeaaGreatDoor.spanSame
open Go Go.ChangeShapes Go.WideShapes Go.ChangeAt Go.RowKit Tw Av Go.Proofs.Z
set_option maxRecDepth 100000
theorem jf0:(Rows.spanSameRow.wf (OpenSpec.ofChange (OpenSpec.ofChange Rows.spanSameSpec).bare))=true:=by kernel_rfl
theorem jf3:(Tryz.f7.params.all (Tryz.pinned.checked.prog.readableRec ·))=true:=by kernel_rfl
theorem jf4:(namedTie Tryz.pinned.checked.prog Rows.spanSameRow.named (OpenSpec.ofChange Rows.spanSameSpec).bare.vars)=true:=by kernel_rfl
theorem jf5:((Rows.spanSameRow.stops == []))=true:=by kernel_rfl
theorem jf7:((Rows.spanSameRow.knobs == []))=true:=by kernel_rfl
theorem jf9:((Rows.spanSameRow.inPlace == Tryz.pinned.checked.prog.inPlace 7))=true:=by kernel_rfl
theorem jf10:((Rows.spanSameRow.unfollowed == Tryz.pinned.checked.prog.unfollowed 7))=true:=by kernel_rfl
theorem jf11:((Rows.spanSameRow.recurses == Tryz.pinned.checked.prog.recurses 7))=true:=by kernel_rfl
theorem jf12:((Rows.spanSameRow.named == Tryz.pinned.checked.prog.varsNamed 7))=true:=by kernel_rfl
theorem jf13:((Rows.spanSameRow.maps == (Tryz.f7.params.toList++(OpenSpec.ofChange Rows.spanSameSpec).bare.plain.varTypes Tryz.pinned.checked.prog).any (Tryz.pinned.checked.prog.mapsRec ·)))=true:=by kernel_rfl
theorem jf14:((Rows.spanSameRow.ifaces == (Tryz.f7.params.toList++(OpenSpec.ofChange Rows.spanSameSpec).bare.plain.varTypes Tryz.pinned.checked.prog).any (Tryz.pinned.checked.prog.ifacesRec ·)))=true:=by kernel_rfl
theorem jf15:((Rows.spanSameRow.mapsOut == Tryz.pinned.checked.prog.mapsAmong Tryz.f7.resultTypes.toList))=true:=by kernel_rfl
theorem jf16:((Rows.spanSameRow.loops == (Tryz.f7.params.toList++(OpenSpec.ofChange Rows.spanSameSpec).bare.plain.varTypes Tryz.pinned.checked.prog).any (Tryz.pinned.checked.prog.loopsFrom ·)))=true:=by kernel_rfl
theorem jf17:((Rows.spanSameRow.wideKeys == (Tryz.f7.params.toList++(OpenSpec.ofChange Rows.spanSameSpec).bare.plain.varTypes Tryz.pinned.checked.prog++Tryz.f7.resultTypes.toList).any (Tryz.pinned.checked.prog.wideKeysFrom ·)))=true:=by kernel_rfl
theorem jf18:((OpenSpec.ofChange Rows.spanSameSpec).bare.vars.all (Tryz.pinned.checked.prog.varReadable ·))=true:=by kernel_rfl
theorem jf19:(Tryz.f7.resultTypes.all (λt=>Tryz.pinned.checked.prog.readableRec t && decide (t < Tryz.pinned.checked.prog.types.size)))=true:=by kernel_rfl
theorem jf20:((Rows.spanSameRow.ifacesOut == Tryz.f7.resultTypes.toList.any (Tryz.pinned.checked.prog.ifacesRec ·)))=true:=by kernel_rfl
theorem jf21:((Rows.spanSameRow.loopsOut == Tryz.f7.resultTypes.toList.any (Tryz.pinned.checked.prog.loopsFrom ·)))=true:=by kernel_rfl
theorem jf22:((Rows.spanSameRow.plainKeys == Tryz.pinned.checked.prog.plainKeys))=true:=by kernel_rfl
theorem jf23:(Rows.spanSameRow.shortTexts.isNone)=true:=by kernel_rfl
theorem jf26:((Rows.spanSameRow.lifted == Tryz.pinned.checked.prog.liftsFinal))=true:=by kernel_rfl
theorem jf27:((Tryz.pinned.checked.prog.make == some Rows.spanSameRow.make))=true:=by kernel_rfl
theorem jf28:((Rows.spanSameRow.kinds == (if Rows.spanSameRow.domain.isEmpty then [] else Tryz.f7.params.toList.map λt=>match Tryz.pinned.checked.prog.underlying t with|some (.int k)=>some k|_=>none)))=true:=by kernel_rfl
theorem jf29:((Rows.spanSameRow.pinned == Rows.spanSameRow.pinnedBy))=true:=by kernel_rfl
theorem jf30:((Rows.spanSameRow.veiled == (Tryz.f7.params.toList++(OpenSpec.ofChange Rows.spanSameSpec).bare.plain.varTypes Tryz.pinned.checked.prog++Tryz.f7.resultTypes.toList).any (Tryz.pinned.checked.prog.veiledRec ·)))=true:=by kernel_rfl
theorem jf31:(Rows.spanSameRow.veiledFits Tryz.pinned.checked.prog Tryz.f7.params.toList (Tryz.f7.params.toList++(OpenSpec.ofChange Rows.spanSameSpec).bare.plain.varTypes Tryz.pinned.checked.prog++Tryz.f7.resultTypes.toList))=true:=by kernel_rfl
theorem closed:joinedFacts Tryz.pinned.checked.prog 7 Tryz.f7 (OpenSpec.ofChange Rows.spanSameSpec).bare Rows.spanSameRow=true:=by
 unfold joinedFacts
 exact (o9 (o9 (o9 (o9 (o9 (o9 (o9 (o9 (o9 (o9 (o9 (o9 (o9 (o9 (o9 (o9 (o9 (o9 (o9 (o9 (o9 (o9 (o9 (o9 (o9 (o9 (o9 (o9 (o9 (o9 (o9 jf0 laidOut) KX) jf3) jf4) jf5) KW) jf7) KY) jf9) jf10) jf11) jf12) jf13) jf14) jf15) jf16) jf17) jf18) jf19) jf20) jf21) jf22) jf23) KZ) LA) jf26) jf27) jf28) jf29) jf30) jf31)
end Go.Proofs.YtcdbijbhifhkeaaGreatDoor.spanSame
