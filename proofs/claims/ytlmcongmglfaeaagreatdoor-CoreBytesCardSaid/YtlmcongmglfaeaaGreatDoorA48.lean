/- CoreBytes: the row's closed facts. -/
import Derived.Test.YtlmcongmglfaeaaGreatDoorCards
import Derived.Test.YtlmcongmglfaeaaGreatDoorTie
import Derived.SevenTiedAt
import Derived.Test.YtlmcongmglfaeaaGreatDoorA19
import Derived.Test.YtlmcongmglfaeaaGreatDoorA20
namespace Go.Proofs.YtlmcongmglfaeaaGreatDoor.coreBytes
open Go Go.ChangeShapes Go.WideShapes Go.ChangeAt Go.RowKit Tw Av
set_option maxRecDepth 100000
theorem jf0:(Rows.coreBytesRow.wf (OpenSpec.ofChange (OpenSpec.ofChange Rows.coreBytesSpec).bare))=true:=by kernel_rfl
theorem jf3:(Tryz.f6.params.all (Tryz.pinned.checked.prog.readableRec ·))=true:=by kernel_rfl
theorem jf4:(namedTie Tryz.pinned.checked.prog Rows.coreBytesRow.named (OpenSpec.ofChange Rows.coreBytesSpec).bare.vars)=true:=by kernel_rfl
theorem jf5:((Rows.coreBytesRow.stops == []))=true:=by kernel_rfl
theorem jf7:((Rows.coreBytesRow.knobs == []))=true:=by kernel_rfl
theorem jf9:((Rows.coreBytesRow.inPlace == Tryz.pinned.checked.prog.inPlace 6))=true:=by kernel_rfl
theorem jf10:((Rows.coreBytesRow.unfollowed == Tryz.pinned.checked.prog.unfollowed 6))=true:=by kernel_rfl
theorem jf11:((Rows.coreBytesRow.recurses == Tryz.pinned.checked.prog.recurses 6))=true:=by kernel_rfl
theorem jf12:((Rows.coreBytesRow.named == Tryz.pinned.checked.prog.varsNamed 6))=true:=by kernel_rfl
theorem jf13:((Rows.coreBytesRow.maps == (Tryz.f6.params.toList++(OpenSpec.ofChange Rows.coreBytesSpec).bare.plain.varTypes Tryz.pinned.checked.prog).any (Tryz.pinned.checked.prog.mapsRec ·)))=true:=by kernel_rfl
theorem jf14:((Rows.coreBytesRow.ifaces == (Tryz.f6.params.toList++(OpenSpec.ofChange Rows.coreBytesSpec).bare.plain.varTypes Tryz.pinned.checked.prog).any (Tryz.pinned.checked.prog.ifacesRec ·)))=true:=by kernel_rfl
theorem jf15:((Rows.coreBytesRow.mapsOut == Tryz.pinned.checked.prog.mapsAmong Tryz.f6.resultTypes.toList))=true:=by kernel_rfl
theorem jf16:((Rows.coreBytesRow.loops == (Tryz.f6.params.toList++(OpenSpec.ofChange Rows.coreBytesSpec).bare.plain.varTypes Tryz.pinned.checked.prog).any (Tryz.pinned.checked.prog.loopsFrom ·)))=true:=by kernel_rfl
theorem jf17:((Rows.coreBytesRow.wideKeys == (Tryz.f6.params.toList++(OpenSpec.ofChange Rows.coreBytesSpec).bare.plain.varTypes Tryz.pinned.checked.prog++Tryz.f6.resultTypes.toList).any (Tryz.pinned.checked.prog.wideKeysFrom ·)))=true:=by kernel_rfl
theorem jf18:((OpenSpec.ofChange Rows.coreBytesSpec).bare.vars.all (Tryz.pinned.checked.prog.varReadable ·))=true:=by kernel_rfl
theorem jf19:(Tryz.f6.resultTypes.all (fun t=>Tryz.pinned.checked.prog.readableRec t && decide (t < Tryz.pinned.checked.prog.types.size)))=true:=by kernel_rfl
theorem jf20:((Rows.coreBytesRow.ifacesOut == Tryz.f6.resultTypes.toList.any (Tryz.pinned.checked.prog.ifacesRec ·)))=true:=by kernel_rfl
theorem jf21:((Rows.coreBytesRow.loopsOut == Tryz.f6.resultTypes.toList.any (Tryz.pinned.checked.prog.loopsFrom ·)))=true:=by kernel_rfl
theorem jf22:((Rows.coreBytesRow.plainKeys == Tryz.pinned.checked.prog.plainKeys))=true:=by kernel_rfl
theorem jf23:(Rows.coreBytesRow.shortTexts.isNone)=true:=by kernel_rfl
theorem jf26:((Rows.coreBytesRow.lifted == Tryz.pinned.checked.prog.liftsFinal))=true:=by kernel_rfl
theorem jf27:((Tryz.pinned.checked.prog.make == some Rows.coreBytesRow.make))=true:=by kernel_rfl
theorem jf28:((Rows.coreBytesRow.kinds == (if Rows.coreBytesRow.domain.isEmpty then [] else Tryz.f6.params.toList.map fun t=>match Tryz.pinned.checked.prog.underlying t with|some (.int k)=>some k|_=>none)))=true:=by kernel_rfl
theorem jf29:((Rows.coreBytesRow.pinned == Rows.coreBytesRow.pinnedBy))=true:=by kernel_rfl
theorem jf30:((Rows.coreBytesRow.veiled == (Tryz.f6.params.toList++(OpenSpec.ofChange Rows.coreBytesSpec).bare.plain.varTypes Tryz.pinned.checked.prog++Tryz.f6.resultTypes.toList).any (Tryz.pinned.checked.prog.veiledRec ·)))=true:=by kernel_rfl
theorem jf31:(Rows.coreBytesRow.veiledFits Tryz.pinned.checked.prog Tryz.f6.params.toList (Tryz.f6.params.toList++(OpenSpec.ofChange Rows.coreBytesSpec).bare.plain.varTypes Tryz.pinned.checked.prog++Tryz.f6.resultTypes.toList))=true:=by kernel_rfl
theorem closed:joinedFacts Tryz.pinned.checked.prog 6 Tryz.f6 (OpenSpec.ofChange Rows.coreBytesSpec).bare Rows.coreBytesRow=true:=by
 unfold joinedFacts
 exact (andI (andI (andI (andI (andI (andI (andI (andI (andI (andI (andI (andI (andI (andI (andI (andI (andI (andI (andI (andI (andI (andI (andI (andI (andI (andI (andI (andI (andI (andI (andI jf0 laidOut) cl_rowed) jf3) jf4) jf5) cl_stops) jf7) cl_knobs) jf9) jf10) jf11) jf12) jf13) jf14) jf15) jf16) jf17) jf18) jf19) jf20) jf21) jf22) jf23) cl_heard) cl_enter) jf26) jf27) jf28) jf29) jf30) jf31)
end Go.Proofs.YtlmcongmglfaeaaGreatDoor.coreBytes
