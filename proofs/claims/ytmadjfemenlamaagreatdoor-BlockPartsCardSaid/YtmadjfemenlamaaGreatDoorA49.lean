/- BlockParts: the row's closed facts. -/
import Derived.Test.YtmadjfemenlamaaGreatDoorCards
import Derived.Test.YtmadjfemenlamaaGreatDoorTie
import Derived.SevenTiedAt
import Derived.Test.YtmadjfemenlamaaGreatDoorA19
import Derived.Test.YtmadjfemenlamaaGreatDoorA20
namespace Go.Proofs.YtmadjfemenlamaaGreatDoor.blockParts
open Go Go.ChangeShapes Go.WideShapes Go.ChangeAt Go.RowKit Tw Av
set_option maxRecDepth 100000
theorem jf0:(Rows.blockPartsRow.wf (OpenSpec.ofChange (OpenSpec.ofChange Rows.blockPartsSpec).bare))=true:=by kernel_rfl
theorem jf3:(Tryz.f4.params.all (Tryz.pinned.checked.prog.readableRec ·))=true:=by kernel_rfl
theorem jf4:(namedTie Tryz.pinned.checked.prog Rows.blockPartsRow.named (OpenSpec.ofChange Rows.blockPartsSpec).bare.vars)=true:=by kernel_rfl
theorem jf5:((Rows.blockPartsRow.stops == []))=true:=by kernel_rfl
theorem jf7:((Rows.blockPartsRow.knobs == []))=true:=by kernel_rfl
theorem jf9:((Rows.blockPartsRow.inPlace == Tryz.pinned.checked.prog.inPlace 4))=true:=by kernel_rfl
theorem jf10:((Rows.blockPartsRow.unfollowed == Tryz.pinned.checked.prog.unfollowed 4))=true:=by kernel_rfl
theorem jf11:((Rows.blockPartsRow.recurses == Tryz.pinned.checked.prog.recurses 4))=true:=by kernel_rfl
theorem jf12:((Rows.blockPartsRow.named == Tryz.pinned.checked.prog.varsNamed 4))=true:=by kernel_rfl
theorem jf13:((Rows.blockPartsRow.maps == (Tryz.f4.params.toList++(OpenSpec.ofChange Rows.blockPartsSpec).bare.plain.varTypes Tryz.pinned.checked.prog).any (Tryz.pinned.checked.prog.mapsRec ·)))=true:=by kernel_rfl
theorem jf14:((Rows.blockPartsRow.ifaces == (Tryz.f4.params.toList++(OpenSpec.ofChange Rows.blockPartsSpec).bare.plain.varTypes Tryz.pinned.checked.prog).any (Tryz.pinned.checked.prog.ifacesRec ·)))=true:=by kernel_rfl
theorem jf15:((Rows.blockPartsRow.mapsOut == Tryz.pinned.checked.prog.mapsAmong Tryz.f4.resultTypes.toList))=true:=by kernel_rfl
theorem jf16:((Rows.blockPartsRow.loops == (Tryz.f4.params.toList++(OpenSpec.ofChange Rows.blockPartsSpec).bare.plain.varTypes Tryz.pinned.checked.prog).any (Tryz.pinned.checked.prog.loopsFrom ·)))=true:=by kernel_rfl
theorem jf17:((Rows.blockPartsRow.wideKeys == (Tryz.f4.params.toList++(OpenSpec.ofChange Rows.blockPartsSpec).bare.plain.varTypes Tryz.pinned.checked.prog++Tryz.f4.resultTypes.toList).any (Tryz.pinned.checked.prog.wideKeysFrom ·)))=true:=by kernel_rfl
theorem jf18:((OpenSpec.ofChange Rows.blockPartsSpec).bare.vars.all (Tryz.pinned.checked.prog.varReadable ·))=true:=by kernel_rfl
theorem jf19:(Tryz.f4.resultTypes.all (fun t=>Tryz.pinned.checked.prog.readableRec t && decide (t < Tryz.pinned.checked.prog.types.size)))=true:=by kernel_rfl
theorem jf20:((Rows.blockPartsRow.ifacesOut == Tryz.f4.resultTypes.toList.any (Tryz.pinned.checked.prog.ifacesRec ·)))=true:=by kernel_rfl
theorem jf21:((Rows.blockPartsRow.loopsOut == Tryz.f4.resultTypes.toList.any (Tryz.pinned.checked.prog.loopsFrom ·)))=true:=by kernel_rfl
theorem jf22:((Rows.blockPartsRow.plainKeys == Tryz.pinned.checked.prog.plainKeys))=true:=by kernel_rfl
theorem jf23:(Rows.blockPartsRow.shortTexts.isNone)=true:=by kernel_rfl
theorem jf26:((Rows.blockPartsRow.lifted == Tryz.pinned.checked.prog.liftsFinal))=true:=by kernel_rfl
theorem jf27:((Tryz.pinned.checked.prog.make == some Rows.blockPartsRow.make))=true:=by kernel_rfl
theorem jf28:((Rows.blockPartsRow.kinds == (if Rows.blockPartsRow.domain.isEmpty then [] else Tryz.f4.params.toList.map fun t=>match Tryz.pinned.checked.prog.underlying t with|some (.int k)=>some k|_=>none)))=true:=by kernel_rfl
theorem jf29:((Rows.blockPartsRow.pinned == Rows.blockPartsRow.pinnedBy))=true:=by kernel_rfl
theorem jf30:((Rows.blockPartsRow.veiled == (Tryz.f4.params.toList++(OpenSpec.ofChange Rows.blockPartsSpec).bare.plain.varTypes Tryz.pinned.checked.prog++Tryz.f4.resultTypes.toList).any (Tryz.pinned.checked.prog.veiledRec ·)))=true:=by kernel_rfl
theorem jf31:(Rows.blockPartsRow.veiledFits Tryz.pinned.checked.prog Tryz.f4.params.toList (Tryz.f4.params.toList++(OpenSpec.ofChange Rows.blockPartsSpec).bare.plain.varTypes Tryz.pinned.checked.prog++Tryz.f4.resultTypes.toList))=true:=by kernel_rfl
theorem closed:joinedFacts Tryz.pinned.checked.prog 4 Tryz.f4 (OpenSpec.ofChange Rows.blockPartsSpec).bare Rows.blockPartsRow=true:=by
 unfold joinedFacts
 exact (andI (andI (andI (andI (andI (andI (andI (andI (andI (andI (andI (andI (andI (andI (andI (andI (andI (andI (andI (andI (andI (andI (andI (andI (andI (andI (andI (andI (andI (andI (andI jf0 laidOut) cl_rowed) jf3) jf4) jf5) cl_stops) jf7) cl_knobs) jf9) jf10) jf11) jf12) jf13) jf14) jf15) jf16) jf17) jf18) jf19) jf20) jf21) jf22) jf23) cl_heard) cl_enter) jf26) jf27) jf28) jf29) jf30) jf31)
end Go.Proofs.YtmadjfemenlamaaGreatDoor.blockParts
