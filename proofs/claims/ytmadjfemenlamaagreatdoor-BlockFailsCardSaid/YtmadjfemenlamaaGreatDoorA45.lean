/- BlockFails: the row's closed facts. -/
import Derived.Test.YtmadjfemenlamaaGreatDoorCards
import Derived.Test.YtmadjfemenlamaaGreatDoorTie
import Derived.SevenTiedAt
import Derived.Test.YtmadjfemenlamaaGreatDoorA19
import Derived.Test.YtmadjfemenlamaaGreatDoorA20
namespace Go.Proofs.YtmadjfemenlamaaGreatDoor.blockFails
open Go Go.ChangeShapes Go.WideShapes Go.ChangeAt Go.RowKit Tw Av
set_option maxRecDepth 100000
theorem jf0:(Rows.blockFailsRow.wf (OpenSpec.ofChange (OpenSpec.ofChange Rows.blockFailsSpec).bare))=true:=by kernel_rfl
theorem jf3:(Tryz.f5.params.all (Tryz.pinned.checked.prog.readableRec ·))=true:=by kernel_rfl
theorem jf4:(namedTie Tryz.pinned.checked.prog Rows.blockFailsRow.named (OpenSpec.ofChange Rows.blockFailsSpec).bare.vars)=true:=by kernel_rfl
theorem jf5:((Rows.blockFailsRow.stops == []))=true:=by kernel_rfl
theorem jf7:((Rows.blockFailsRow.knobs == []))=true:=by kernel_rfl
theorem jf9:((Rows.blockFailsRow.inPlace == Tryz.pinned.checked.prog.inPlace 5))=true:=by kernel_rfl
theorem jf10:((Rows.blockFailsRow.unfollowed == Tryz.pinned.checked.prog.unfollowed 5))=true:=by kernel_rfl
theorem jf11:((Rows.blockFailsRow.recurses == Tryz.pinned.checked.prog.recurses 5))=true:=by kernel_rfl
theorem jf12:((Rows.blockFailsRow.named == Tryz.pinned.checked.prog.varsNamed 5))=true:=by kernel_rfl
theorem jf13:((Rows.blockFailsRow.maps == (Tryz.f5.params.toList++(OpenSpec.ofChange Rows.blockFailsSpec).bare.plain.varTypes Tryz.pinned.checked.prog).any (Tryz.pinned.checked.prog.mapsRec ·)))=true:=by kernel_rfl
theorem jf14:((Rows.blockFailsRow.ifaces == (Tryz.f5.params.toList++(OpenSpec.ofChange Rows.blockFailsSpec).bare.plain.varTypes Tryz.pinned.checked.prog).any (Tryz.pinned.checked.prog.ifacesRec ·)))=true:=by kernel_rfl
theorem jf15:((Rows.blockFailsRow.mapsOut == Tryz.pinned.checked.prog.mapsAmong Tryz.f5.resultTypes.toList))=true:=by kernel_rfl
theorem jf16:((Rows.blockFailsRow.loops == (Tryz.f5.params.toList++(OpenSpec.ofChange Rows.blockFailsSpec).bare.plain.varTypes Tryz.pinned.checked.prog).any (Tryz.pinned.checked.prog.loopsFrom ·)))=true:=by kernel_rfl
theorem jf17:((Rows.blockFailsRow.wideKeys == (Tryz.f5.params.toList++(OpenSpec.ofChange Rows.blockFailsSpec).bare.plain.varTypes Tryz.pinned.checked.prog++Tryz.f5.resultTypes.toList).any (Tryz.pinned.checked.prog.wideKeysFrom ·)))=true:=by kernel_rfl
theorem jf18:((OpenSpec.ofChange Rows.blockFailsSpec).bare.vars.all (Tryz.pinned.checked.prog.varReadable ·))=true:=by kernel_rfl
theorem jf19:(Tryz.f5.resultTypes.all (fun t=>Tryz.pinned.checked.prog.readableRec t && decide (t < Tryz.pinned.checked.prog.types.size)))=true:=by kernel_rfl
theorem jf20:((Rows.blockFailsRow.ifacesOut == Tryz.f5.resultTypes.toList.any (Tryz.pinned.checked.prog.ifacesRec ·)))=true:=by kernel_rfl
theorem jf21:((Rows.blockFailsRow.loopsOut == Tryz.f5.resultTypes.toList.any (Tryz.pinned.checked.prog.loopsFrom ·)))=true:=by kernel_rfl
theorem jf22:((Rows.blockFailsRow.plainKeys == Tryz.pinned.checked.prog.plainKeys))=true:=by kernel_rfl
theorem jf23:(Rows.blockFailsRow.shortTexts.isNone)=true:=by kernel_rfl
theorem jf26:((Rows.blockFailsRow.lifted == Tryz.pinned.checked.prog.liftsFinal))=true:=by kernel_rfl
theorem jf27:((Tryz.pinned.checked.prog.make == some Rows.blockFailsRow.make))=true:=by kernel_rfl
theorem jf28:((Rows.blockFailsRow.kinds == (if Rows.blockFailsRow.domain.isEmpty then [] else Tryz.f5.params.toList.map fun t=>match Tryz.pinned.checked.prog.underlying t with|some (.int k)=>some k|_=>none)))=true:=by kernel_rfl
theorem jf29:((Rows.blockFailsRow.pinned == Rows.blockFailsRow.pinnedBy))=true:=by kernel_rfl
theorem jf30:((Rows.blockFailsRow.veiled == (Tryz.f5.params.toList++(OpenSpec.ofChange Rows.blockFailsSpec).bare.plain.varTypes Tryz.pinned.checked.prog++Tryz.f5.resultTypes.toList).any (Tryz.pinned.checked.prog.veiledRec ·)))=true:=by kernel_rfl
theorem jf31:(Rows.blockFailsRow.veiledFits Tryz.pinned.checked.prog Tryz.f5.params.toList (Tryz.f5.params.toList++(OpenSpec.ofChange Rows.blockFailsSpec).bare.plain.varTypes Tryz.pinned.checked.prog++Tryz.f5.resultTypes.toList))=true:=by kernel_rfl
theorem closed:joinedFacts Tryz.pinned.checked.prog 5 Tryz.f5 (OpenSpec.ofChange Rows.blockFailsSpec).bare Rows.blockFailsRow=true:=by
 unfold joinedFacts
 exact (andI (andI (andI (andI (andI (andI (andI (andI (andI (andI (andI (andI (andI (andI (andI (andI (andI (andI (andI (andI (andI (andI (andI (andI (andI (andI (andI (andI (andI (andI (andI jf0 laidOut) cl_rowed) jf3) jf4) jf5) cl_stops) jf7) cl_knobs) jf9) jf10) jf11) jf12) jf13) jf14) jf15) jf16) jf17) jf18) jf19) jf20) jf21) jf22) jf23) cl_heard) cl_enter) jf26) jf27) jf28) jf29) jf30) jf31)
end Go.Proofs.YtmadjfemenlamaaGreatDoor.blockFails
