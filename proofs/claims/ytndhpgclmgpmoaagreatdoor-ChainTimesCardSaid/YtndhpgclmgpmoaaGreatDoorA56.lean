/- ChainTimes: the row's closed facts. -/
import Derived.Test.YtndhpgclmgpmoaaGreatDoorCards
import Derived.Test.YtndhpgclmgpmoaaGreatDoorTie
import Derived.SevenTiedAt
import Derived.Test.YtndhpgclmgpmoaaGreatDoorA20
import Derived.Test.YtndhpgclmgpmoaaGreatDoorA21
namespace Go.Proofs.YtndhpgclmgpmoaaGreatDoor.chainTimes
open Go Go.ChangeShapes Go.WideShapes Go.ChangeAt Go.RowKit Tw Av
set_option maxRecDepth 100000
theorem jf0:(Rows.chainTimesRow.wf (OpenSpec.ofChange (OpenSpec.ofChange Rows.chainTimesSpec).bare))=true:=by kernel_rfl
theorem jf3:(Tryz.f4.params.all (Tryz.pinned.checked.prog.readableRec ·))=true:=by kernel_rfl
theorem jf4:(namedTie Tryz.pinned.checked.prog Rows.chainTimesRow.named (OpenSpec.ofChange Rows.chainTimesSpec).bare.vars)=true:=by kernel_rfl
theorem jf5:((Rows.chainTimesRow.stops == []))=true:=by kernel_rfl
theorem jf7:((Rows.chainTimesRow.knobs == []))=true:=by kernel_rfl
theorem jf9:((Rows.chainTimesRow.inPlace == Tryz.pinned.checked.prog.inPlace 4))=true:=by kernel_rfl
theorem jf10:((Rows.chainTimesRow.unfollowed == Tryz.pinned.checked.prog.unfollowed 4))=true:=by kernel_rfl
theorem jf11:((Rows.chainTimesRow.recurses == Tryz.pinned.checked.prog.recurses 4))=true:=by kernel_rfl
theorem jf12:((Rows.chainTimesRow.named == Tryz.pinned.checked.prog.varsNamed 4))=true:=by kernel_rfl
theorem jf13:((Rows.chainTimesRow.maps == (Tryz.f4.params.toList++(OpenSpec.ofChange Rows.chainTimesSpec).bare.plain.varTypes Tryz.pinned.checked.prog).any (Tryz.pinned.checked.prog.mapsRec ·)))=true:=by kernel_rfl
theorem jf14:((Rows.chainTimesRow.ifaces == (Tryz.f4.params.toList++(OpenSpec.ofChange Rows.chainTimesSpec).bare.plain.varTypes Tryz.pinned.checked.prog).any (Tryz.pinned.checked.prog.ifacesRec ·)))=true:=by kernel_rfl
theorem jf15:((Rows.chainTimesRow.mapsOut == Tryz.pinned.checked.prog.mapsAmong Tryz.f4.resultTypes.toList))=true:=by kernel_rfl
theorem jf16:((Rows.chainTimesRow.loops == (Tryz.f4.params.toList++(OpenSpec.ofChange Rows.chainTimesSpec).bare.plain.varTypes Tryz.pinned.checked.prog).any (Tryz.pinned.checked.prog.loopsFrom ·)))=true:=by kernel_rfl
theorem jf17:((Rows.chainTimesRow.wideKeys == (Tryz.f4.params.toList++(OpenSpec.ofChange Rows.chainTimesSpec).bare.plain.varTypes Tryz.pinned.checked.prog++Tryz.f4.resultTypes.toList).any (Tryz.pinned.checked.prog.wideKeysFrom ·)))=true:=by kernel_rfl
theorem jf18:((OpenSpec.ofChange Rows.chainTimesSpec).bare.vars.all (Tryz.pinned.checked.prog.varReadable ·))=true:=by kernel_rfl
theorem jf19:(Tryz.f4.resultTypes.all (fun t=>Tryz.pinned.checked.prog.readableRec t && decide (t < Tryz.pinned.checked.prog.types.size)))=true:=by kernel_rfl
theorem jf20:((Rows.chainTimesRow.ifacesOut == Tryz.f4.resultTypes.toList.any (Tryz.pinned.checked.prog.ifacesRec ·)))=true:=by kernel_rfl
theorem jf21:((Rows.chainTimesRow.loopsOut == Tryz.f4.resultTypes.toList.any (Tryz.pinned.checked.prog.loopsFrom ·)))=true:=by kernel_rfl
theorem jf22:((Rows.chainTimesRow.plainKeys == Tryz.pinned.checked.prog.plainKeys))=true:=by kernel_rfl
theorem jf23:(Rows.chainTimesRow.shortTexts.isNone)=true:=by kernel_rfl
theorem jf26:((Rows.chainTimesRow.lifted == Tryz.pinned.checked.prog.liftsFinal))=true:=by kernel_rfl
theorem jf27:((Tryz.pinned.checked.prog.make == some Rows.chainTimesRow.make))=true:=by kernel_rfl
theorem jf28:((Rows.chainTimesRow.kinds == (if Rows.chainTimesRow.domain.isEmpty then [] else Tryz.f4.params.toList.map fun t=>match Tryz.pinned.checked.prog.underlying t with|some (.int k)=>some k|_=>none)))=true:=by kernel_rfl
theorem jf29:((Rows.chainTimesRow.pinned == Rows.chainTimesRow.pinnedBy))=true:=by kernel_rfl
theorem jf30:((Rows.chainTimesRow.veiled == (Tryz.f4.params.toList++(OpenSpec.ofChange Rows.chainTimesSpec).bare.plain.varTypes Tryz.pinned.checked.prog++Tryz.f4.resultTypes.toList).any (Tryz.pinned.checked.prog.veiledRec ·)))=true:=by kernel_rfl
theorem jf31:(Rows.chainTimesRow.veiledFits Tryz.pinned.checked.prog Tryz.f4.params.toList (Tryz.f4.params.toList++(OpenSpec.ofChange Rows.chainTimesSpec).bare.plain.varTypes Tryz.pinned.checked.prog++Tryz.f4.resultTypes.toList))=true:=by kernel_rfl
theorem closed:joinedFacts Tryz.pinned.checked.prog 4 Tryz.f4 (OpenSpec.ofChange Rows.chainTimesSpec).bare Rows.chainTimesRow=true:=by
 unfold joinedFacts
 exact (andI (andI (andI (andI (andI (andI (andI (andI (andI (andI (andI (andI (andI (andI (andI (andI (andI (andI (andI (andI (andI (andI (andI (andI (andI (andI (andI (andI (andI (andI (andI jf0 laidOut) cl_rowed) jf3) jf4) jf5) cl_stops) jf7) cl_knobs) jf9) jf10) jf11) jf12) jf13) jf14) jf15) jf16) jf17) jf18) jf19) jf20) jf21) jf22) jf23) cl_heard) cl_enter) jf26) jf27) jf28) jf29) jf30) jf31)
end Go.Proofs.YtndhpgclmgpmoaaGreatDoor.chainTimes
