/- ChainWhole: the row's closed facts. -/
import Derived.Test.YtndhpgclmgpmoaaGreatDoorCards
import Derived.Test.YtndhpgclmgpmoaaGreatDoorTie
import Derived.SevenTiedAt
import Derived.Test.YtndhpgclmgpmoaaGreatDoorA20
import Derived.Test.YtndhpgclmgpmoaaGreatDoorA21
namespace Go.Proofs.YtndhpgclmgpmoaaGreatDoor.chainWhole
open Go Go.ChangeShapes Go.WideShapes Go.ChangeAt Go.RowKit Tw Av
set_option maxRecDepth 100000
theorem jf0:(Rows.chainWholeRow.wf (OpenSpec.ofChange (OpenSpec.ofChange Rows.chainWholeSpec).bare))=true:=by kernel_rfl
theorem jf3:(Tryz.f8.params.all (Tryz.pinned.checked.prog.readableRec ·))=true:=by kernel_rfl
theorem jf4:(namedTie Tryz.pinned.checked.prog Rows.chainWholeRow.named (OpenSpec.ofChange Rows.chainWholeSpec).bare.vars)=true:=by kernel_rfl
theorem jf5:((Rows.chainWholeRow.stops == []))=true:=by kernel_rfl
theorem jf7:((Rows.chainWholeRow.knobs == []))=true:=by kernel_rfl
theorem jf9:((Rows.chainWholeRow.inPlace == Tryz.pinned.checked.prog.inPlace 8))=true:=by kernel_rfl
theorem jf10:((Rows.chainWholeRow.unfollowed == Tryz.pinned.checked.prog.unfollowed 8))=true:=by kernel_rfl
theorem jf11:((Rows.chainWholeRow.recurses == Tryz.pinned.checked.prog.recurses 8))=true:=by kernel_rfl
theorem jf12:((Rows.chainWholeRow.named == Tryz.pinned.checked.prog.varsNamed 8))=true:=by kernel_rfl
theorem jf13:((Rows.chainWholeRow.maps == (Tryz.f8.params.toList++(OpenSpec.ofChange Rows.chainWholeSpec).bare.plain.varTypes Tryz.pinned.checked.prog).any (Tryz.pinned.checked.prog.mapsRec ·)))=true:=by kernel_rfl
theorem jf14:((Rows.chainWholeRow.ifaces == (Tryz.f8.params.toList++(OpenSpec.ofChange Rows.chainWholeSpec).bare.plain.varTypes Tryz.pinned.checked.prog).any (Tryz.pinned.checked.prog.ifacesRec ·)))=true:=by kernel_rfl
theorem jf15:((Rows.chainWholeRow.mapsOut == Tryz.pinned.checked.prog.mapsAmong Tryz.f8.resultTypes.toList))=true:=by kernel_rfl
theorem jf16:((Rows.chainWholeRow.loops == (Tryz.f8.params.toList++(OpenSpec.ofChange Rows.chainWholeSpec).bare.plain.varTypes Tryz.pinned.checked.prog).any (Tryz.pinned.checked.prog.loopsFrom ·)))=true:=by kernel_rfl
theorem jf17:((Rows.chainWholeRow.wideKeys == (Tryz.f8.params.toList++(OpenSpec.ofChange Rows.chainWholeSpec).bare.plain.varTypes Tryz.pinned.checked.prog++Tryz.f8.resultTypes.toList).any (Tryz.pinned.checked.prog.wideKeysFrom ·)))=true:=by kernel_rfl
theorem jf18:((OpenSpec.ofChange Rows.chainWholeSpec).bare.vars.all (Tryz.pinned.checked.prog.varReadable ·))=true:=by kernel_rfl
theorem jf19:(Tryz.f8.resultTypes.all (fun t=>Tryz.pinned.checked.prog.readableRec t && decide (t < Tryz.pinned.checked.prog.types.size)))=true:=by kernel_rfl
theorem jf20:((Rows.chainWholeRow.ifacesOut == Tryz.f8.resultTypes.toList.any (Tryz.pinned.checked.prog.ifacesRec ·)))=true:=by kernel_rfl
theorem jf21:((Rows.chainWholeRow.loopsOut == Tryz.f8.resultTypes.toList.any (Tryz.pinned.checked.prog.loopsFrom ·)))=true:=by kernel_rfl
theorem jf22:((Rows.chainWholeRow.plainKeys == Tryz.pinned.checked.prog.plainKeys))=true:=by kernel_rfl
theorem jf23:(Rows.chainWholeRow.shortTexts.isNone)=true:=by kernel_rfl
theorem jf26:((Rows.chainWholeRow.lifted == Tryz.pinned.checked.prog.liftsFinal))=true:=by kernel_rfl
theorem jf27:((Tryz.pinned.checked.prog.make == some Rows.chainWholeRow.make))=true:=by kernel_rfl
theorem jf28:((Rows.chainWholeRow.kinds == (if Rows.chainWholeRow.domain.isEmpty then [] else Tryz.f8.params.toList.map fun t=>match Tryz.pinned.checked.prog.underlying t with|some (.int k)=>some k|_=>none)))=true:=by kernel_rfl
theorem jf29:((Rows.chainWholeRow.pinned == Rows.chainWholeRow.pinnedBy))=true:=by kernel_rfl
theorem jf30:((Rows.chainWholeRow.veiled == (Tryz.f8.params.toList++(OpenSpec.ofChange Rows.chainWholeSpec).bare.plain.varTypes Tryz.pinned.checked.prog++Tryz.f8.resultTypes.toList).any (Tryz.pinned.checked.prog.veiledRec ·)))=true:=by kernel_rfl
theorem jf31:(Rows.chainWholeRow.veiledFits Tryz.pinned.checked.prog Tryz.f8.params.toList (Tryz.f8.params.toList++(OpenSpec.ofChange Rows.chainWholeSpec).bare.plain.varTypes Tryz.pinned.checked.prog++Tryz.f8.resultTypes.toList))=true:=by kernel_rfl
theorem closed:joinedFacts Tryz.pinned.checked.prog 8 Tryz.f8 (OpenSpec.ofChange Rows.chainWholeSpec).bare Rows.chainWholeRow=true:=by
 unfold joinedFacts
 exact (andI (andI (andI (andI (andI (andI (andI (andI (andI (andI (andI (andI (andI (andI (andI (andI (andI (andI (andI (andI (andI (andI (andI (andI (andI (andI (andI (andI (andI (andI (andI jf0 laidOut) cl_rowed) jf3) jf4) jf5) cl_stops) jf7) cl_knobs) jf9) jf10) jf11) jf12) jf13) jf14) jf15) jf16) jf17) jf18) jf19) jf20) jf21) jf22) jf23) cl_heard) cl_enter) jf26) jf27) jf28) jf29) jf30) jf31)
end Go.Proofs.YtndhpgclmgpmoaaGreatDoor.chainWhole
