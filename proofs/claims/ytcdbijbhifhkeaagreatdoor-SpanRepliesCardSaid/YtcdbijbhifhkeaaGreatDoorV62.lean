/- . -/
import Derived.Test.YtcdbijbhifhkeaaGreatDoorCards
import Derived.Test.YtcdbijbhifhkeaaGreatDoorTie
import Derived.Test.YtcdbijbhifhkeaaGreatDoorV17
namespace Go.Proofs.YtcdbijbhifhkeaaGreatDoor.spanReplies
open Go Go.ChangeShapes Go.WideShapes Go.ChangeAt Go.RowKit Tw Av Go.Proofs.Z
set_option maxRecDepth 100000
theorem jf0:(Rows.spanRepliesRow.wf (OpenSpec.ofChange (OpenSpec.ofChange Rows.spanRepliesSpec).bare))=true:=by kernel_rfl
theorem jf3:(Tryz.f6.params.all (Tryz.pinned.checked.prog.readableRec ·))=true:=by kernel_rfl
theorem jf4:(namedTie Tryz.pinned.checked.prog Rows.spanRepliesRow.named (OpenSpec.ofChange Rows.spanRepliesSpec).bare.vars)=true:=by kernel_rfl
theorem jf5:((Rows.spanRepliesRow.stops == []))=true:=by kernel_rfl
theorem jf7:((Rows.spanRepliesRow.knobs == []))=true:=by kernel_rfl
theorem jf9:((Rows.spanRepliesRow.inPlace == Tryz.pinned.checked.prog.inPlace 6))=true:=by kernel_rfl
theorem jf10:((Rows.spanRepliesRow.unfollowed == Tryz.pinned.checked.prog.unfollowed 6))=true:=by kernel_rfl
theorem jf11:((Rows.spanRepliesRow.recurses == Tryz.pinned.checked.prog.recurses 6))=true:=by kernel_rfl
theorem jf12:((Rows.spanRepliesRow.named == Tryz.pinned.checked.prog.varsNamed 6))=true:=by kernel_rfl
theorem jf13:((Rows.spanRepliesRow.maps == (Tryz.f6.params.toList++(OpenSpec.ofChange Rows.spanRepliesSpec).bare.plain.varTypes Tryz.pinned.checked.prog).any (Tryz.pinned.checked.prog.mapsRec ·)))=true:=by kernel_rfl
theorem jf14:((Rows.spanRepliesRow.ifaces == (Tryz.f6.params.toList++(OpenSpec.ofChange Rows.spanRepliesSpec).bare.plain.varTypes Tryz.pinned.checked.prog).any (Tryz.pinned.checked.prog.ifacesRec ·)))=true:=by kernel_rfl
theorem jf15:((Rows.spanRepliesRow.mapsOut == Tryz.pinned.checked.prog.mapsAmong Tryz.f6.resultTypes.toList))=true:=by kernel_rfl
theorem jf16:((Rows.spanRepliesRow.loops == (Tryz.f6.params.toList++(OpenSpec.ofChange Rows.spanRepliesSpec).bare.plain.varTypes Tryz.pinned.checked.prog).any (Tryz.pinned.checked.prog.loopsFrom ·)))=true:=by kernel_rfl
theorem jf17:((Rows.spanRepliesRow.wideKeys == (Tryz.f6.params.toList++(OpenSpec.ofChange Rows.spanRepliesSpec).bare.plain.varTypes Tryz.pinned.checked.prog++Tryz.f6.resultTypes.toList).any (Tryz.pinned.checked.prog.wideKeysFrom ·)))=true:=by kernel_rfl
theorem jf18:((OpenSpec.ofChange Rows.spanRepliesSpec).bare.vars.all (Tryz.pinned.checked.prog.varReadable ·))=true:=by kernel_rfl
theorem jf19:(Tryz.f6.resultTypes.all (λt=>Tryz.pinned.checked.prog.readableRec t && decide (t < Tryz.pinned.checked.prog.types.size)))=true:=by kernel_rfl
theorem jf20:((Rows.spanRepliesRow.ifacesOut == Tryz.f6.resultTypes.toList.any (Tryz.pinned.checked.prog.ifacesRec ·)))=true:=by kernel_rfl
theorem jf21:((Rows.spanRepliesRow.loopsOut == Tryz.f6.resultTypes.toList.any (Tryz.pinned.checked.prog.loopsFrom ·)))=true:=by kernel_rfl
theorem jf22:((Rows.spanRepliesRow.plainKeys == Tryz.pinned.checked.prog.plainKeys))=true:=by kernel_rfl
theorem jf23:(Rows.spanRepliesRow.shortTexts.isNone)=true:=by kernel_rfl
theorem jf26:((Rows.spanRepliesRow.lifted == Tryz.pinned.checked.prog.liftsFinal))=true:=by kernel_rfl
theorem jf27:((Tryz.pinned.checked.prog.make == some Rows.spanRepliesRow.make))=true:=by kernel_rfl
theorem jf28:((Rows.spanRepliesRow.kinds == (if Rows.spanRepliesRow.domain.isEmpty then [] else Tryz.f6.params.toList.map λt=>match Tryz.pinned.checked.prog.underlying t with|some (.int k)=>some k|_=>none)))=true:=by kernel_rfl
theorem jf29:((Rows.spanRepliesRow.pinned == Rows.spanRepliesRow.pinnedBy))=true:=by kernel_rfl
theorem jf30:((Rows.spanRepliesRow.veiled == (Tryz.f6.params.toList++(OpenSpec.ofChange Rows.spanRepliesSpec).bare.plain.varTypes Tryz.pinned.checked.prog++Tryz.f6.resultTypes.toList).any (Tryz.pinned.checked.prog.veiledRec ·)))=true:=by kernel_rfl
theorem jf31:(Rows.spanRepliesRow.veiledFits Tryz.pinned.checked.prog Tryz.f6.params.toList (Tryz.f6.params.toList++(OpenSpec.ofChange Rows.spanRepliesSpec).bare.plain.varTypes Tryz.pinned.checked.prog++Tryz.f6.resultTypes.toList))=true:=by kernel_rfl
theorem closed:joinedFacts Tryz.pinned.checked.prog 6 Tryz.f6 (OpenSpec.ofChange Rows.spanRepliesSpec).bare Rows.spanRepliesRow=true:=by
 unfold joinedFacts
 exact (o9 (o9 (o9 (o9 (o9 (o9 (o9 (o9 (o9 (o9 (o9 (o9 (o9 (o9 (o9 (o9 (o9 (o9 (o9 (o9 (o9 (o9 (o9 (o9 (o9 (o9 (o9 (o9 (o9 (o9 (o9 jf0 laidOut) KX) jf3) jf4) jf5) KW) jf7) KY) jf9) jf10) jf11) jf12) jf13) jf14) jf15) jf16) jf17) jf18) jf19) jf20) jf21) jf22) jf23) KZ) LA) jf26) jf27) jf28) jf29) jf30) jf31)
end Go.Proofs.YtcdbijbhifhkeaaGreatDoor.spanReplies
