/- . -/
import Derived.Test.YtcdbijbhifhkeaaGreatDoorCards
import Derived.Test.YtcdbijbhifhkeaaGreatDoorTie
import Derived.Test.YtcdbijbhifhkeaaGreatDoorV17
namespace Go.Proofs.YtcdbijbhifhkeaaGreatDoor.spanMakes
open Go Go.ChangeShapes Go.WideShapes Go.ChangeAt Go.RowKit Tw Av Go.Proofs.Z
set_option maxRecDepth 100000
theorem jf0:(Rows.spanMakesRow.wf (OpenSpec.ofChange (OpenSpec.ofChange Rows.spanMakesSpec).bare))=true:=by kernel_rfl
theorem jf3:(Tryz.f8.params.all (Tryz.pinned.checked.prog.readableRec ·))=true:=by kernel_rfl
theorem jf4:(namedTie Tryz.pinned.checked.prog Rows.spanMakesRow.named (OpenSpec.ofChange Rows.spanMakesSpec).bare.vars)=true:=by kernel_rfl
theorem jf5:((Rows.spanMakesRow.stops == []))=true:=by kernel_rfl
theorem jf7:((Rows.spanMakesRow.knobs == []))=true:=by kernel_rfl
theorem jf9:((Rows.spanMakesRow.inPlace == Tryz.pinned.checked.prog.inPlace 8))=true:=by kernel_rfl
theorem jf10:((Rows.spanMakesRow.unfollowed == Tryz.pinned.checked.prog.unfollowed 8))=true:=by kernel_rfl
theorem jf11:((Rows.spanMakesRow.recurses == Tryz.pinned.checked.prog.recurses 8))=true:=by kernel_rfl
theorem jf12:((Rows.spanMakesRow.named == Tryz.pinned.checked.prog.varsNamed 8))=true:=by kernel_rfl
theorem jf13:((Rows.spanMakesRow.maps == (Tryz.f8.params.toList++(OpenSpec.ofChange Rows.spanMakesSpec).bare.plain.varTypes Tryz.pinned.checked.prog).any (Tryz.pinned.checked.prog.mapsRec ·)))=true:=by kernel_rfl
theorem jf14:((Rows.spanMakesRow.ifaces == (Tryz.f8.params.toList++(OpenSpec.ofChange Rows.spanMakesSpec).bare.plain.varTypes Tryz.pinned.checked.prog).any (Tryz.pinned.checked.prog.ifacesRec ·)))=true:=by kernel_rfl
theorem jf15:((Rows.spanMakesRow.mapsOut == Tryz.pinned.checked.prog.mapsAmong Tryz.f8.resultTypes.toList))=true:=by kernel_rfl
theorem jf16:((Rows.spanMakesRow.loops == (Tryz.f8.params.toList++(OpenSpec.ofChange Rows.spanMakesSpec).bare.plain.varTypes Tryz.pinned.checked.prog).any (Tryz.pinned.checked.prog.loopsFrom ·)))=true:=by kernel_rfl
theorem jf17:((Rows.spanMakesRow.wideKeys == (Tryz.f8.params.toList++(OpenSpec.ofChange Rows.spanMakesSpec).bare.plain.varTypes Tryz.pinned.checked.prog++Tryz.f8.resultTypes.toList).any (Tryz.pinned.checked.prog.wideKeysFrom ·)))=true:=by kernel_rfl
theorem jf18:((OpenSpec.ofChange Rows.spanMakesSpec).bare.vars.all (Tryz.pinned.checked.prog.varReadable ·))=true:=by kernel_rfl
theorem jf19:(Tryz.f8.resultTypes.all (λt=>Tryz.pinned.checked.prog.readableRec t && decide (t < Tryz.pinned.checked.prog.types.size)))=true:=by kernel_rfl
theorem jf20:((Rows.spanMakesRow.ifacesOut == Tryz.f8.resultTypes.toList.any (Tryz.pinned.checked.prog.ifacesRec ·)))=true:=by kernel_rfl
theorem jf21:((Rows.spanMakesRow.loopsOut == Tryz.f8.resultTypes.toList.any (Tryz.pinned.checked.prog.loopsFrom ·)))=true:=by kernel_rfl
theorem jf22:((Rows.spanMakesRow.plainKeys == Tryz.pinned.checked.prog.plainKeys))=true:=by kernel_rfl
theorem jf23:(Rows.spanMakesRow.shortTexts.isNone)=true:=by kernel_rfl
theorem jf26:((Rows.spanMakesRow.lifted == Tryz.pinned.checked.prog.liftsFinal))=true:=by kernel_rfl
theorem jf27:((Tryz.pinned.checked.prog.make == some Rows.spanMakesRow.make))=true:=by kernel_rfl
theorem jf28:((Rows.spanMakesRow.kinds == (if Rows.spanMakesRow.domain.isEmpty then [] else Tryz.f8.params.toList.map λt=>match Tryz.pinned.checked.prog.underlying t with|some (.int k)=>some k|_=>none)))=true:=by kernel_rfl
theorem jf29:((Rows.spanMakesRow.pinned == Rows.spanMakesRow.pinnedBy))=true:=by kernel_rfl
theorem jf30:((Rows.spanMakesRow.veiled == (Tryz.f8.params.toList++(OpenSpec.ofChange Rows.spanMakesSpec).bare.plain.varTypes Tryz.pinned.checked.prog++Tryz.f8.resultTypes.toList).any (Tryz.pinned.checked.prog.veiledRec ·)))=true:=by kernel_rfl
theorem jf31:(Rows.spanMakesRow.veiledFits Tryz.pinned.checked.prog Tryz.f8.params.toList (Tryz.f8.params.toList++(OpenSpec.ofChange Rows.spanMakesSpec).bare.plain.varTypes Tryz.pinned.checked.prog++Tryz.f8.resultTypes.toList))=true:=by kernel_rfl
theorem closed:joinedFacts Tryz.pinned.checked.prog 8 Tryz.f8 (OpenSpec.ofChange Rows.spanMakesSpec).bare Rows.spanMakesRow=true:=by
 unfold joinedFacts
 exact (o9 (o9 (o9 (o9 (o9 (o9 (o9 (o9 (o9 (o9 (o9 (o9 (o9 (o9 (o9 (o9 (o9 (o9 (o9 (o9 (o9 (o9 (o9 (o9 (o9 (o9 (o9 (o9 (o9 (o9 (o9 jf0 laidOut) KX) jf3) jf4) jf5) KW) jf7) KY) jf9) jf10) jf11) jf12) jf13) jf14) jf15) jf16) jf17) jf18) jf19) jf20) jf21) jf22) jf23) KZ) LA) jf26) jf27) jf28) jf29) jf30) jf31)
end Go.Proofs.YtcdbijbhifhkeaaGreatDoor.spanMakes
