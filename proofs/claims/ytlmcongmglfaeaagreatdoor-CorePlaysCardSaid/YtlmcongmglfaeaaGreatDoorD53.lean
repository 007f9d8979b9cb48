/- CorePlays: the row's closed facts. -/
import Derived.Test.YtlmcongmglfaeaaGreatDoorCards
import Derived.Test.YtlmcongmglfaeaaGreatDoorTie
import Derived.SevenTiedAt
import Derived.Test.YtlmcongmglfaeaaGreatDoorD20
import Derived.Test.YtlmcongmglfaeaaGreatDoorD21
namespace Go.Proofs.YtlmcongmglfaeaaGreatDoor.corePlays
open Go Go.ChangeShapes Go.WideShapes Go.ChangeAt Go.RowKit Tw Av
set_option maxRecDepth 100000
theorem jf0:(Rows.corePlaysRow.wf (OpenSpec.ofChange (OpenSpec.ofChange Rows.corePlaysSpec).bare))=true:=by kernel_rfl
theorem jf3:(Tryz.f3.params.all (Tryz.pinned.checked.prog.readableRec ·))=true:=by kernel_rfl
theorem jf4:(namedTie Tryz.pinned.checked.prog Rows.corePlaysRow.named (OpenSpec.ofChange Rows.corePlaysSpec).bare.vars)=true:=by kernel_rfl
theorem jf5:((Rows.corePlaysRow.stops == []))=true:=by kernel_rfl
theorem jf7:((Rows.corePlaysRow.knobs == []))=true:=by kernel_rfl
theorem jf9:((Rows.corePlaysRow.inPlace == Tryz.pinned.checked.prog.inPlace 3))=true:=by kernel_rfl
theorem jf10:((Rows.corePlaysRow.unfollowed == Tryz.pinned.checked.prog.unfollowed 3))=true:=by kernel_rfl
theorem jf11:((Rows.corePlaysRow.recurses == Tryz.pinned.checked.prog.recurses 3))=true:=by kernel_rfl
theorem jf12:((Rows.corePlaysRow.named == Tryz.pinned.checked.prog.varsNamed 3))=true:=by kernel_rfl
theorem jf13:((Rows.corePlaysRow.maps == (Tryz.f3.params.toList++(OpenSpec.ofChange Rows.corePlaysSpec).bare.plain.varTypes Tryz.pinned.checked.prog).any (Tryz.pinned.checked.prog.mapsRec ·)))=true:=by kernel_rfl
theorem jf14:((Rows.corePlaysRow.ifaces == (Tryz.f3.params.toList++(OpenSpec.ofChange Rows.corePlaysSpec).bare.plain.varTypes Tryz.pinned.checked.prog).any (Tryz.pinned.checked.prog.ifacesRec ·)))=true:=by kernel_rfl
theorem jf15:((Rows.corePlaysRow.mapsOut == Tryz.pinned.checked.prog.mapsAmong Tryz.f3.resultTypes.toList))=true:=by kernel_rfl
theorem jf16:((Rows.corePlaysRow.loops == (Tryz.f3.params.toList++(OpenSpec.ofChange Rows.corePlaysSpec).bare.plain.varTypes Tryz.pinned.checked.prog).any (Tryz.pinned.checked.prog.loopsFrom ·)))=true:=by kernel_rfl
theorem jf17:((Rows.corePlaysRow.wideKeys == (Tryz.f3.params.toList++(OpenSpec.ofChange Rows.corePlaysSpec).bare.plain.varTypes Tryz.pinned.checked.prog++Tryz.f3.resultTypes.toList).any (Tryz.pinned.checked.prog.wideKeysFrom ·)))=true:=by kernel_rfl
theorem jf18:((OpenSpec.ofChange Rows.corePlaysSpec).bare.vars.all (Tryz.pinned.checked.prog.varReadable ·))=true:=by kernel_rfl
theorem jf19:(Tryz.f3.resultTypes.all (fun t=>Tryz.pinned.checked.prog.readableRec t && decide (t < Tryz.pinned.checked.prog.types.size)))=true:=by kernel_rfl
theorem jf20:((Rows.corePlaysRow.ifacesOut == Tryz.f3.resultTypes.toList.any (Tryz.pinned.checked.prog.ifacesRec ·)))=true:=by kernel_rfl
theorem jf21:((Rows.corePlaysRow.loopsOut == Tryz.f3.resultTypes.toList.any (Tryz.pinned.checked.prog.loopsFrom ·)))=true:=by kernel_rfl
theorem jf22:((Rows.corePlaysRow.plainKeys == Tryz.pinned.checked.prog.plainKeys))=true:=by kernel_rfl
theorem jf23:(Rows.corePlaysRow.shortTexts.isNone)=true:=by kernel_rfl
theorem jf26:((Rows.corePlaysRow.lifted == Tryz.pinned.checked.prog.liftsFinal))=true:=by kernel_rfl
theorem jf27:((Tryz.pinned.checked.prog.make == some Rows.corePlaysRow.make))=true:=by kernel_rfl
theorem jf28:((Rows.corePlaysRow.kinds == (if Rows.corePlaysRow.domain.isEmpty then [] else Tryz.f3.params.toList.map fun t=>match Tryz.pinned.checked.prog.underlying t with|some (.int k)=>some k|_=>none)))=true:=by kernel_rfl
theorem jf29:((Rows.corePlaysRow.pinned == Rows.corePlaysRow.pinnedBy))=true:=by kernel_rfl
theorem jf30:((Rows.corePlaysRow.veiled == (Tryz.f3.params.toList++(OpenSpec.ofChange Rows.corePlaysSpec).bare.plain.varTypes Tryz.pinned.checked.prog++Tryz.f3.resultTypes.toList).any (Tryz.pinned.checked.prog.veiledRec ·)))=true:=by kernel_rfl
theorem jf31:(Rows.corePlaysRow.veiledFits Tryz.pinned.checked.prog Tryz.f3.params.toList (Tryz.f3.params.toList++(OpenSpec.ofChange Rows.corePlaysSpec).bare.plain.varTypes Tryz.pinned.checked.prog++Tryz.f3.resultTypes.toList))=true:=by kernel_rfl
theorem closed:joinedFacts Tryz.pinned.checked.prog 3 Tryz.f3 (OpenSpec.ofChange Rows.corePlaysSpec).bare Rows.corePlaysRow=true:=by
 unfold joinedFacts
 exact (andI (andI (andI (andI (andI (andI (andI (andI (andI (andI (andI (andI (andI (andI (andI (andI (andI (andI (andI (andI (andI (andI (andI (andI (andI (andI (andI (andI (andI (andI (andI jf0 laidOut) cl_rowed) jf3) jf4) jf5) cl_stops) jf7) cl_knobs) jf9) jf10) jf11) jf12) jf13) jf14) jf15) jf16) jf17) jf18) jf19) jf20) jf21) jf22) jf23) cl_heard) cl_enter) jf26) jf27) jf28) jf29) jf30) jf31)
end Go.Proofs.YtlmcongmglfaeaaGreatDoor.corePlays
