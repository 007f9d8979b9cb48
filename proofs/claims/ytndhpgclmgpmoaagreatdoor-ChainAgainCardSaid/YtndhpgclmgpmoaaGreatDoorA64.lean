/- ChainAgain: the row's closed facts. -/
import Derived.Test.YtndhpgclmgpmoaaGreatDoorCards
import Derived.Test.YtndhpgclmgpmoaaGreatDoorTie
import Derived.SevenTiedAt
import Derived.Test.YtndhpgclmgpmoaaGreatDoorA20
import Derived.Test.YtndhpgclmgpmoaaGreatDoorA21
namespace Go.Proofs.YtndhpgclmgpmoaaGreatDoor.chainAgain
open Go Go.ChangeShapes Go.WideShapes Go.ChangeAt Go.RowKit Tw Av
set_option maxRecDepth 100000
theorem jf0:(Rows.chainAgainRow.wf (OpenSpec.ofChange (OpenSpec.ofChange Rows.chainAgainSpec).bare))=true:=by kernel_rfl
theorem jf3:(Tryz.f6.params.all (Tryz.pinned.checked.prog.readableRec ·))=true:=by kernel_rfl
theorem jf4:(namedTie Tryz.pinned.checked.prog Rows.chainAgainRow.named (OpenSpec.ofChange Rows.chainAgainSpec).bare.vars)=true:=by kernel_rfl
theorem jf5:((Rows.chainAgainRow.stops == []))=true:=by kernel_rfl
theorem jf7:((Rows.chainAgainRow.knobs == []))=true:=by kernel_rfl
theorem jf9:((Rows.chainAgainRow.inPlace == Tryz.pinned.checked.prog.inPlace 6))=true:=by kernel_rfl
theorem jf10:((Rows.chainAgainRow.unfollowed == Tryz.pinned.checked.prog.unfollowed 6))=true:=by kernel_rfl
theorem jf11:((Rows.chainAgainRow.recurses == Tryz.pinned.checked.prog.recurses 6))=true:=by kernel_rfl
theorem jf12:((Rows.chainAgainRow.named == Tryz.pinned.checked.prog.varsNamed 6))=true:=by kernel_rfl
theorem jf13:((Rows.chainAgainRow.maps == (Tryz.f6.params.toList++(OpenSpec.ofChange Rows.chainAgainSpec).bare.plain.varTypes Tryz.pinned.checked.prog).any (Tryz.pinned.checked.prog.mapsRec ·)))=true:=by kernel_rfl
theorem jf14:((Rows.chainAgainRow.ifaces == (Tryz.f6.params.toList++(OpenSpec.ofChange Rows.chainAgainSpec).bare.plain.varTypes Tryz.pinned.checked.prog).any (Tryz.pinned.checked.prog.ifacesRec ·)))=true:=by kernel_rfl
theorem jf15:((Rows.chainAgainRow.mapsOut == Tryz.pinned.checked.prog.mapsAmong Tryz.f6.resultTypes.toList))=true:=by kernel_rfl
theorem jf16:((Rows.chainAgainRow.loops == (Tryz.f6.params.toList++(OpenSpec.ofChange Rows.chainAgainSpec).bare.plain.varTypes Tryz.pinned.checked.prog).any (Tryz.pinned.checked.prog.loopsFrom ·)))=true:=by kernel_rfl
theorem jf17:((Rows.chainAgainRow.wideKeys == (Tryz.f6.params.toList++(OpenSpec.ofChange Rows.chainAgainSpec).bare.plain.varTypes Tryz.pinned.checked.prog++Tryz.f6.resultTypes.toList).any (Tryz.pinned.checked.prog.wideKeysFrom ·)))=true:=by kernel_rfl
theorem jf18:((OpenSpec.ofChange Rows.chainAgainSpec).bare.vars.all (Tryz.pinned.checked.prog.varReadable ·))=true:=by kernel_rfl
theorem jf19:(Tryz.f6.resultTypes.all (fun t=>Tryz.pinned.checked.prog.readableRec t && decide (t < Tryz.pinned.checked.prog.types.size)))=true:=by kernel_rfl
theorem jf20:((Rows.chainAgainRow.ifacesOut == Tryz.f6.resultTypes.toList.any (Tryz.pinned.checked.prog.ifacesRec ·)))=true:=by kernel_rfl
theorem jf21:((Rows.chainAgainRow.loopsOut == Tryz.f6.resultTypes.toList.any (Tryz.pinned.checked.prog.loopsFrom ·)))=true:=by kernel_rfl
theorem jf22:((Rows.chainAgainRow.plainKeys == Tryz.pinned.checked.prog.plainKeys))=true:=by kernel_rfl
theorem jf23:(Rows.chainAgainRow.shortTexts.isNone)=true:=by kernel_rfl
theorem jf26:((Rows.chainAgainRow.lifted == Tryz.pinned.checked.prog.liftsFinal))=true:=by kernel_rfl
theorem jf27:((Tryz.pinned.checked.prog.make == some Rows.chainAgainRow.make))=true:=by kernel_rfl
theorem jf28:((Rows.chainAgainRow.kinds == (if Rows.chainAgainRow.domain.isEmpty then [] else Tryz.f6.params.toList.map fun t=>match Tryz.pinned.checked.prog.underlying t with|some (.int k)=>some k|_=>none)))=true:=by kernel_rfl
theorem jf29:((Rows.chainAgainRow.pinned == Rows.chainAgainRow.pinnedBy))=true:=by kernel_rfl
theorem jf30:((Rows.chainAgainRow.veiled == (Tryz.f6.params.toList++(OpenSpec.ofChange Rows.chainAgainSpec).bare.plain.varTypes Tryz.pinned.checked.prog++Tryz.f6.resultTypes.toList).any (Tryz.pinned.checked.prog.veiledRec ·)))=true:=by kernel_rfl
theorem jf31:(Rows.chainAgainRow.veiledFits Tryz.pinned.checked.prog Tryz.f6.params.toList (Tryz.f6.params.toList++(OpenSpec.ofChange Rows.chainAgainSpec).bare.plain.varTypes Tryz.pinned.checked.prog++Tryz.f6.resultTypes.toList))=true:=by kernel_rfl
theorem closed:joinedFacts Tryz.pinned.checked.prog 6 Tryz.f6 (OpenSpec.ofChange Rows.chainAgainSpec).bare Rows.chainAgainRow=true:=by
 unfold joinedFacts
 exact (andI (andI (andI (andI (andI (andI (andI (andI (andI (andI (andI (andI (andI (andI (andI (andI (andI (andI (andI (andI (andI (andI (andI (andI (andI (andI (andI (andI (andI (andI (andI jf0 laidOut) cl_rowed) jf3) jf4) jf5) cl_stops) jf7) cl_knobs) jf9) jf10) jf11) jf12) jf13) jf14) jf15) jf16) jf17) jf18) jf19) jf20) jf21) jf22) jf23) cl_heard) cl_enter) jf26) jf27) jf28) jf29) jf30) jf31)
end Go.Proofs.YtndhpgclmgpmoaaGreatDoor.chainAgain
