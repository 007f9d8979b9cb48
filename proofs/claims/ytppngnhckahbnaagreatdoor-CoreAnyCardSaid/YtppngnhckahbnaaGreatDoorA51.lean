/- CoreAny: the row's closed facts. -/
import Derived.Test.YtppngnhckahbnaaGreatDoorCards
import Derived.Test.YtppngnhckahbnaaGreatDoorTie
import Derived.SevenTiedAt
import Derived.Test.YtppngnhckahbnaaGreatDoorA21
import Derived.Test.YtppngnhckahbnaaGreatDoorA22
namespace Go.Proofs.YtppngnhckahbnaaGreatDoor.coreAny
open Go Go.ChangeShapes Go.WideShapes Go.ChangeAt Go.RowKit Tw Av
set_option maxRecDepth 100000
theorem jf0:(Rows.coreAnyRow.wf (OpenSpec.ofChange (OpenSpec.ofChange Rows.coreAnySpec).bare))=true:=by kernel_rfl
theorem jf3:(Tryz.f5.params.all (Tryz.pinned.checked.prog.readableRec ·))=true:=by kernel_rfl
theorem jf4:(namedTie Tryz.pinned.checked.prog Rows.coreAnyRow.named (OpenSpec.ofChange Rows.coreAnySpec).bare.vars)=true:=by kernel_rfl
theorem jf5:((Rows.coreAnyRow.stops == []))=true:=by kernel_rfl
theorem jf7:((Rows.coreAnyRow.knobs == []))=true:=by kernel_rfl
theorem jf9:((Rows.coreAnyRow.inPlace == Tryz.pinned.checked.prog.inPlace 5))=true:=by kernel_rfl
theorem jf10:((Rows.coreAnyRow.unfollowed == Tryz.pinned.checked.prog.unfollowed 5))=true:=by kernel_rfl
theorem jf11:((Rows.coreAnyRow.recurses == Tryz.pinned.checked.prog.recurses 5))=true:=by kernel_rfl
theorem jf12:((Rows.coreAnyRow.named == Tryz.pinned.checked.prog.varsNamed 5))=true:=by kernel_rfl
theorem jf13:((Rows.coreAnyRow.maps == (Tryz.f5.params.toList++(OpenSpec.ofChange Rows.coreAnySpec).bare.plain.varTypes Tryz.pinned.checked.prog).any (Tryz.pinned.checked.prog.mapsRec ·)))=true:=by kernel_rfl
theorem jf14:((Rows.coreAnyRow.ifaces == (Tryz.f5.params.toList++(OpenSpec.ofChange Rows.coreAnySpec).bare.plain.varTypes Tryz.pinned.checked.prog).any (Tryz.pinned.checked.prog.ifacesRec ·)))=true:=by kernel_rfl
theorem jf15:((Rows.coreAnyRow.mapsOut == Tryz.pinned.checked.prog.mapsAmong Tryz.f5.resultTypes.toList))=true:=by kernel_rfl
theorem jf16:((Rows.coreAnyRow.loops == (Tryz.f5.params.toList++(OpenSpec.ofChange Rows.coreAnySpec).bare.plain.varTypes Tryz.pinned.checked.prog).any (Tryz.pinned.checked.prog.loopsFrom ·)))=true:=by kernel_rfl
theorem jf17:((Rows.coreAnyRow.wideKeys == (Tryz.f5.params.toList++(OpenSpec.ofChange Rows.coreAnySpec).bare.plain.varTypes Tryz.pinned.checked.prog++Tryz.f5.resultTypes.toList).any (Tryz.pinned.checked.prog.wideKeysFrom ·)))=true:=by kernel_rfl
theorem jf18:((OpenSpec.ofChange Rows.coreAnySpec).bare.vars.all (Tryz.pinned.checked.prog.varReadable ·))=true:=by kernel_rfl
theorem jf19:(Tryz.f5.resultTypes.all (fun t=>Tryz.pinned.checked.prog.readableRec t && decide (t < Tryz.pinned.checked.prog.types.size)))=true:=by kernel_rfl
theorem jf20:((Rows.coreAnyRow.ifacesOut == Tryz.f5.resultTypes.toList.any (Tryz.pinned.checked.prog.ifacesRec ·)))=true:=by kernel_rfl
theorem jf21:((Rows.coreAnyRow.loopsOut == Tryz.f5.resultTypes.toList.any (Tryz.pinned.checked.prog.loopsFrom ·)))=true:=by kernel_rfl
theorem jf22:((Rows.coreAnyRow.plainKeys == Tryz.pinned.checked.prog.plainKeys))=true:=by kernel_rfl
theorem jf23:(Rows.coreAnyRow.shortTexts.isNone)=true:=by kernel_rfl
theorem jf26:((Rows.coreAnyRow.lifted == Tryz.pinned.checked.prog.liftsFinal))=true:=by kernel_rfl
theorem jf27:((Tryz.pinned.checked.prog.make == some Rows.coreAnyRow.make))=true:=by kernel_rfl
theorem jf28:((Rows.coreAnyRow.kinds == (if Rows.coreAnyRow.domain.isEmpty then [] else Tryz.f5.params.toList.map fun t=>match Tryz.pinned.checked.prog.underlying t with|some (.int k)=>some k|_=>none)))=true:=by kernel_rfl
theorem jf29:((Rows.coreAnyRow.pinned == Rows.coreAnyRow.pinnedBy))=true:=by kernel_rfl
theorem jf30:((Rows.coreAnyRow.veiled == (Tryz.f5.params.toList++(OpenSpec.ofChange Rows.coreAnySpec).bare.plain.varTypes Tryz.pinned.checked.prog++Tryz.f5.resultTypes.toList).any (Tryz.pinned.checked.prog.veiledRec ·)))=true:=by kernel_rfl
theorem jf31:(Rows.coreAnyRow.veiledFits Tryz.pinned.checked.prog Tryz.f5.params.toList (Tryz.f5.params.toList++(OpenSpec.ofChange Rows.coreAnySpec).bare.plain.varTypes Tryz.pinned.checked.prog++Tryz.f5.resultTypes.toList))=true:=by kernel_rfl
theorem closed:joinedFacts Tryz.pinned.checked.prog 5 Tryz.f5 (OpenSpec.ofChange Rows.coreAnySpec).bare Rows.coreAnyRow=true:=by
 unfold joinedFacts
 exact (andI (andI (andI (andI (andI (andI (andI (andI (andI (andI (andI (andI (andI (andI (andI (andI (andI (andI (andI (andI (andI (andI (andI (andI (andI (andI (andI (andI (andI (andI (andI jf0 laidOut) cl_rowed) jf3) jf4) jf5) cl_stops) jf7) cl_knobs) jf9) jf10) jf11) jf12) jf13) jf14) jf15) jf16) jf17) jf18) jf19) jf20) jf21) jf22) jf23) cl_heard) cl_enter) jf26) jf27) jf28) jf29) jf30) jf31)
end Go.Proofs.YtppngnhckahbnaaGreatDoor.coreAny
