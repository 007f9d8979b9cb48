/- CoreAsks: the row's closed facts. -/
import Derived.Test.YtlmcongmglfaeaaGreatDoorCards
import Derived.Test.YtlmcongmglfaeaaGreatDoorTie
import Derived.SevenTiedAt
import Derived.Test.YtlmcongmglfaeaaGreatDoorD20
import Derived.Test.YtlmcongmglfaeaaGreatDoorD21
namespace Go.Proofs.YtlmcongmglfaeaaGreatDoor.coreAsks
open Go Go.ChangeShapes Go.WideShapes Go.ChangeAt Go.RowKit Tw Av
set_option maxRecDepth 100000
theorem jf0:(Rows.coreAsksRow.wf (OpenSpec.ofChange (OpenSpec.ofChange Rows.coreAsksSpec).bare))=true:=by kernel_rfl
theorem jf3:(Tryz.f4.params.all (Tryz.pinned.checked.prog.readableRec ·))=true:=by kernel_rfl
theorem jf4:(namedTie Tryz.pinned.checked.prog Rows.coreAsksRow.named (OpenSpec.ofChange Rows.coreAsksSpec).bare.vars)=true:=by kernel_rfl
theorem jf5:((Rows.coreAsksRow.stops == []))=true:=by kernel_rfl
theorem jf7:((Rows.coreAsksRow.knobs == []))=true:=by kernel_rfl
theorem jf9:((Rows.coreAsksRow.inPlace == Tryz.pinned.checked.prog.inPlace 4))=true:=by kernel_rfl
theorem jf10:((Rows.coreAsksRow.unfollowed == Tryz.pinned.checked.prog.unfollowed 4))=true:=by kernel_rfl
theorem jf11:((Rows.coreAsksRow.recurses == Tryz.pinned.checked.prog.recurses 4))=true:=by kernel_rfl
theorem jf12:((Rows.coreAsksRow.named == Tryz.pinned.checked.prog.varsNamed 4))=true:=by kernel_rfl
theorem jf13:((Rows.coreAsksRow.maps == (Tryz.f4.params.toList++(OpenSpec.ofChange Rows.coreAsksSpec).bare.plain.varTypes Tryz.pinned.checked.prog).any (Tryz.pinned.checked.prog.mapsRec ·)))=true:=by kernel_rfl
theorem jf14:((Rows.coreAsksRow.ifaces == (Tryz.f4.params.toList++(OpenSpec.ofChange Rows.coreAsksSpec).bare.plain.varTypes Tryz.pinned.checked.prog).any (Tryz.pinned.checked.prog.ifacesRec ·)))=true:=by kernel_rfl
theorem jf15:((Rows.coreAsksRow.mapsOut == Tryz.pinned.checked.prog.mapsAmong Tryz.f4.resultTypes.toList))=true:=by kernel_rfl
theorem jf16:((Rows.coreAsksRow.loops == (Tryz.f4.params.toList++(OpenSpec.ofChange Rows.coreAsksSpec).bare.plain.varTypes Tryz.pinned.checked.prog).any (Tryz.pinned.checked.prog.loopsFrom ·)))=true:=by kernel_rfl
theorem jf17:((Rows.coreAsksRow.wideKeys == (Tryz.f4.params.toList++(OpenSpec.ofChange Rows.coreAsksSpec).bare.plain.varTypes Tryz.pinned.checked.prog++Tryz.f4.resultTypes.toList).any (Tryz.pinned.checked.prog.wideKeysFrom ·)))=true:=by kernel_rfl
theorem jf18:((OpenSpec.ofChange Rows.coreAsksSpec).bare.vars.all (Tryz.pinned.checked.prog.varReadable ·))=true:=by kernel_rfl
theorem jf19:(Tryz.f4.resultTypes.all (fun t=>Tryz.pinned.checked.prog.readableRec t && decide (t < Tryz.pinned.checked.prog.types.size)))=true:=by kernel_rfl
theorem jf20:((Rows.coreAsksRow.ifacesOut == Tryz.f4.resultTypes.toList.any (Tryz.pinned.checked.prog.ifacesRec ·)))=true:=by kernel_rfl
theorem jf21:((Rows.coreAsksRow.loopsOut == Tryz.f4.resultTypes.toList.any (Tryz.pinned.checked.prog.loopsFrom ·)))=true:=by kernel_rfl
theorem jf22:((Rows.coreAsksRow.plainKeys == Tryz.pinned.checked.prog.plainKeys))=true:=by kernel_rfl
theorem jf23:(Rows.coreAsksRow.shortTexts.isNone)=true:=by kernel_rfl
theorem jf26:((Rows.coreAsksRow.lifted == Tryz.pinned.checked.prog.liftsFinal))=true:=by kernel_rfl
theorem jf27:((Tryz.pinned.checked.prog.make == some Rows.coreAsksRow.make))=true:=by kernel_rfl
theorem jf28:((Rows.coreAsksRow.kinds == (if Rows.coreAsksRow.domain.isEmpty then [] else Tryz.f4.params.toList.map fun t=>match Tryz.pinned.checked.prog.underlying t with|some (.int k)=>some k|_=>none)))=true:=by kernel_rfl
theorem jf29:((Rows.coreAsksRow.pinned == Rows.coreAsksRow.pinnedBy))=true:=by kernel_rfl
theorem jf30:((Rows.coreAsksRow.veiled == (Tryz.f4.params.toList++(OpenSpec.ofChange Rows.coreAsksSpec).bare.plain.varTypes Tryz.pinned.checked.prog++Tryz.f4.resultTypes.toList).any (Tryz.pinned.checked.prog.veiledRec ·)))=true:=by kernel_rfl
theorem jf31:(Rows.coreAsksRow.veiledFits Tryz.pinned.checked.prog Tryz.f4.params.toList (Tryz.f4.params.toList++(OpenSpec.ofChange Rows.coreAsksSpec).bare.plain.varTypes Tryz.pinned.checked.prog++Tryz.f4.resultTypes.toList))=true:=by kernel_rfl
theorem closed:joinedFacts Tryz.pinned.checked.prog 4 Tryz.f4 (OpenSpec.ofChange Rows.coreAsksSpec).bare Rows.coreAsksRow=true:=by
 unfold joinedFacts
 exact (andI (andI (andI (andI (andI (andI (andI (andI (andI (andI (andI (andI (andI (andI (andI (andI (andI (andI (andI (andI (andI (andI (andI (andI (andI (andI (andI (andI (andI (andI (andI jf0 laidOut) cl_rowed) jf3) jf4) jf5) cl_stops) jf7) cl_knobs) jf9) jf10) jf11) jf12) jf13) jf14) jf15) jf16) jf17) jf18) jf19) jf20) jf21) jf22) jf23) cl_heard) cl_enter) jf26) jf27) jf28) jf29) jf30) jf31)
end Go.Proofs.YtlmcongmglfaeaaGreatDoor.coreAsks
