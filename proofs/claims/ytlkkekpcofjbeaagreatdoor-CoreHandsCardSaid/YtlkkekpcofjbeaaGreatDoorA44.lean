/- CoreHands: the row's closed facts. -/
import Derived.Test.YtlkkekpcofjbeaaGreatDoorCards
import Derived.Test.YtlkkekpcofjbeaaGreatDoorTie
import Derived.SevenTiedAt
import Derived.Test.YtlkkekpcofjbeaaGreatDoorA19
import Derived.Test.YtlkkekpcofjbeaaGreatDoorA20
namespace Go.Proofs.YtlkkekpcofjbeaaGreatDoor.coreHands
open Go Go.ChangeShapes Go.WideShapes Go.ChangeAt Go.RowKit Tw Av
set_option maxRecDepth 100000
theorem jf0:(Rows.coreHandsRow.wf (OpenSpec.ofChange (OpenSpec.ofChange Rows.coreHandsSpec).bare))=true:=by kernel_rfl
theorem jf3:(Tryz.f3.params.all (Tryz.pinned.checked.prog.readableRec ·))=true:=by kernel_rfl
theorem jf4:(namedTie Tryz.pinned.checked.prog Rows.coreHandsRow.named (OpenSpec.ofChange Rows.coreHandsSpec).bare.vars)=true:=by kernel_rfl
theorem jf5:((Rows.coreHandsRow.stops == []))=true:=by kernel_rfl
theorem jf7:((Rows.coreHandsRow.knobs == []))=true:=by kernel_rfl
theorem jf9:((Rows.coreHandsRow.inPlace == Tryz.pinned.checked.prog.inPlace 3))=true:=by kernel_rfl
theorem jf10:((Rows.coreHandsRow.unfollowed == Tryz.pinned.checked.prog.unfollowed 3))=true:=by kernel_rfl
theorem jf11:((Rows.coreHandsRow.recurses == Tryz.pinned.checked.prog.recurses 3))=true:=by kernel_rfl
theorem jf12:((Rows.coreHandsRow.named == Tryz.pinned.checked.prog.varsNamed 3))=true:=by kernel_rfl
theorem jf13:((Rows.coreHandsRow.maps == (Tryz.f3.params.toList++(OpenSpec.ofChange Rows.coreHandsSpec).bare.plain.varTypes Tryz.pinned.checked.prog).any (Tryz.pinned.checked.prog.mapsRec ·)))=true:=by kernel_rfl
theorem jf14:((Rows.coreHandsRow.ifaces == (Tryz.f3.params.toList++(OpenSpec.ofChange Rows.coreHandsSpec).bare.plain.varTypes Tryz.pinned.checked.prog).any (Tryz.pinned.checked.prog.ifacesRec ·)))=true:=by kernel_rfl
theorem jf15:((Rows.coreHandsRow.mapsOut == Tryz.pinned.checked.prog.mapsAmong Tryz.f3.resultTypes.toList))=true:=by kernel_rfl
theorem jf16:((Rows.coreHandsRow.loops == (Tryz.f3.params.toList++(OpenSpec.ofChange Rows.coreHandsSpec).bare.plain.varTypes Tryz.pinned.checked.prog).any (Tryz.pinned.checked.prog.loopsFrom ·)))=true:=by kernel_rfl
theorem jf17:((Rows.coreHandsRow.wideKeys == (Tryz.f3.params.toList++(OpenSpec.ofChange Rows.coreHandsSpec).bare.plain.varTypes Tryz.pinned.checked.prog++Tryz.f3.resultTypes.toList).any (Tryz.pinned.checked.prog.wideKeysFrom ·)))=true:=by kernel_rfl
theorem jf18:((OpenSpec.ofChange Rows.coreHandsSpec).bare.vars.all (Tryz.pinned.checked.prog.varReadable ·))=true:=by kernel_rfl
theorem jf19:(Tryz.f3.resultTypes.all (fun t=>Tryz.pinned.checked.prog.readableRec t && decide (t < Tryz.pinned.checked.prog.types.size)))=true:=by kernel_rfl
theorem jf20:((Rows.coreHandsRow.ifacesOut == Tryz.f3.resultTypes.toList.any (Tryz.pinned.checked.prog.ifacesRec ·)))=true:=by kernel_rfl
theorem jf21:((Rows.coreHandsRow.loopsOut == Tryz.f3.resultTypes.toList.any (Tryz.pinned.checked.prog.loopsFrom ·)))=true:=by kernel_rfl
theorem jf22:((Rows.coreHandsRow.plainKeys == Tryz.pinned.checked.prog.plainKeys))=true:=by kernel_rfl
theorem jf23:(Rows.coreHandsRow.shortTexts.isNone)=true:=by kernel_rfl
theorem jf26:((Rows.coreHandsRow.lifted == Tryz.pinned.checked.prog.liftsFinal))=true:=by kernel_rfl
theorem jf27:((Tryz.pinned.checked.prog.make == some Rows.coreHandsRow.make))=true:=by kernel_rfl
theorem jf28:((Rows.coreHandsRow.kinds == (if Rows.coreHandsRow.domain.isEmpty then [] else Tryz.f3.params.toList.map fun t=>match Tryz.pinned.checked.prog.underlying t with|some (.int k)=>some k|_=>none)))=true:=by kernel_rfl
theorem jf29:((Rows.coreHandsRow.pinned == Rows.coreHandsRow.pinnedBy))=true:=by kernel_rfl
theorem jf30:((Rows.coreHandsRow.veiled == (Tryz.f3.params.toList++(OpenSpec.ofChange Rows.coreHandsSpec).bare.plain.varTypes Tryz.pinned.checked.prog++Tryz.f3.resultTypes.toList).any (Tryz.pinned.checked.prog.veiledRec ·)))=true:=by kernel_rfl
theorem jf31:(Rows.coreHandsRow.veiledFits Tryz.pinned.checked.prog Tryz.f3.params.toList (Tryz.f3.params.toList++(OpenSpec.ofChange Rows.coreHandsSpec).bare.plain.varTypes Tryz.pinned.checked.prog++Tryz.f3.resultTypes.toList))=true:=by kernel_rfl
theorem closed:joinedFacts Tryz.pinned.checked.prog 3 Tryz.f3 (OpenSpec.ofChange Rows.coreHandsSpec).bare Rows.coreHandsRow=true:=by
 unfold joinedFacts
 exact (andI (andI (andI (andI (andI (andI (andI (andI (andI (andI (andI (andI (andI (andI (andI (andI (andI (andI (andI (andI (andI (andI (andI (andI (andI (andI (andI (andI (andI (andI (andI jf0 laidOut) cl_rowed) jf3) jf4) jf5) cl_stops) jf7) cl_knobs) jf9) jf10) jf11) jf12) jf13) jf14) jf15) jf16) jf17) jf18) jf19) jf20) jf21) jf22) jf23) cl_heard) cl_enter) jf26) jf27) jf28) jf29) jf30) jf31)
end Go.Proofs.YtlkkekpcofjbeaaGreatDoor.coreHands
