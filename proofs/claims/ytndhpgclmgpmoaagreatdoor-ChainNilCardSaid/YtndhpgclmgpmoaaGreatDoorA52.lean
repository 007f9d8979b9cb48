/- ChainNil: the row's closed facts. -/
import Derived.Test.YtndhpgclmgpmoaaGreatDoorCards
import Derived.Test.YtndhpgclmgpmoaaGreatDoorTie
import Derived.SevenTiedAt
import Derived.Test.YtndhpgclmgpmoaaGreatDoorA20
import Derived.Test.YtndhpgclmgpmoaaGreatDoorA21
namespace Go.Proofs.YtndhpgclmgpmoaaGreatDoor.chainNil
open Go Go.ChangeShapes Go.WideShapes Go.ChangeAt Go.RowKit Tw Av
set_option maxRecDepth 100000
theorem jf0:(Rows.chainNilRow.wf (OpenSpec.ofChange (OpenSpec.ofChange Rows.chainNilSpec).bare))=true:=by kernel_rfl
theorem jf3:(Tryz.f7.params.all (Tryz.pinned.checked.prog.readableRec ·))=true:=by kernel_rfl
theorem jf4:(namedTie Tryz.pinned.checked.prog Rows.chainNilRow.named (OpenSpec.ofChange Rows.chainNilSpec).bare.vars)=true:=by kernel_rfl
theorem jf5:((Rows.chainNilRow.stops == []))=true:=by kernel_rfl
theorem jf7:((Rows.chainNilRow.knobs == []))=true:=by kernel_rfl
theorem jf9:((Rows.chainNilRow.inPlace == Tryz.pinned.checked.prog.inPlace 7))=true:=by kernel_rfl
theorem jf10:((Rows.chainNilRow.unfollowed == Tryz.pinned.checked.prog.unfollowed 7))=true:=by kernel_rfl
theorem jf11:((Rows.chainNilRow.recurses == Tryz.pinned.checked.prog.recurses 7))=true:=by kernel_rfl
theorem jf12:((Rows.chainNilRow.named == Tryz.pinned.checked.prog.varsNamed 7))=true:=by kernel_rfl
theorem jf13:((Rows.chainNilRow.maps == (Tryz.f7.params.toList++(OpenSpec.ofChange Rows.chainNilSpec).bare.plain.varTypes Tryz.pinned.checked.prog).any (Tryz.pinned.checked.prog.mapsRec ·)))=true:=by kernel_rfl
theorem jf14:((Rows.chainNilRow.ifaces == (Tryz.f7.params.toList++(OpenSpec.ofChange Rows.chainNilSpec).bare.plain.varTypes Tryz.pinned.checked.prog).any (Tryz.pinned.checked.prog.ifacesRec ·)))=true:=by kernel_rfl
theorem jf15:((Rows.chainNilRow.mapsOut == Tryz.pinned.checked.prog.mapsAmong Tryz.f7.resultTypes.toList))=true:=by kernel_rfl
theorem jf16:((Rows.chainNilRow.loops == (Tryz.f7.params.toList++(OpenSpec.ofChange Rows.chainNilSpec).bare.plain.varTypes Tryz.pinned.checked.prog).any (Tryz.pinned.checked.prog.loopsFrom ·)))=true:=by kernel_rfl
theorem jf17:((Rows.chainNilRow.wideKeys == (Tryz.f7.params.toList++(OpenSpec.ofChange Rows.chainNilSpec).bare.plain.varTypes Tryz.pinned.checked.prog++Tryz.f7.resultTypes.toList).any (Tryz.pinned.checked.prog.wideKeysFrom ·)))=true:=by kernel_rfl
theorem jf18:((OpenSpec.ofChange Rows.chainNilSpec).bare.vars.all (Tryz.pinned.checked.prog.varReadable ·))=true:=by kernel_rfl
theorem jf19:(Tryz.f7.resultTypes.all (fun t=>Tryz.pinned.checked.prog.readableRec t && decide (t < Tryz.pinned.checked.prog.types.size)))=true:=by kernel_rfl
theorem jf20:((Rows.chainNilRow.ifacesOut == Tryz.f7.resultTypes.toList.any (Tryz.pinned.checked.prog.ifacesRec ·)))=true:=by kernel_rfl
theorem jf21:((Rows.chainNilRow.loopsOut == Tryz.f7.resultTypes.toList.any (Tryz.pinned.checked.prog.loopsFrom ·)))=true:=by kernel_rfl
theorem jf22:((Rows.chainNilRow.plainKeys == Tryz.pinned.checked.prog.plainKeys))=true:=by kernel_rfl
theorem jf23:(Rows.chainNilRow.shortTexts.isNone)=true:=by kernel_rfl
theorem jf26:((Rows.chainNilRow.lifted == Tryz.pinned.checked.prog.liftsFinal))=true:=by kernel_rfl
theorem jf27:((Tryz.pinned.checked.prog.make == some Rows.chainNilRow.make))=true:=by kernel_rfl
theorem jf28:((Rows.chainNilRow.kinds == (if Rows.chainNilRow.domain.isEmpty then [] else Tryz.f7.params.toList.map fun t=>match Tryz.pinned.checked.prog.underlying t with|some (.int k)=>some k|_=>none)))=true:=by kernel_rfl
theorem jf29:((Rows.chainNilRow.pinned == Rows.chainNilRow.pinnedBy))=true:=by kernel_rfl
theorem jf30:((Rows.chainNilRow.veiled == (Tryz.f7.params.toList++(OpenSpec.ofChange Rows.chainNilSpec).bare.plain.varTypes Tryz.pinned.checked.prog++Tryz.f7.resultTypes.toList).any (Tryz.pinned.checked.prog.veiledRec ·)))=true:=by kernel_rfl
theorem jf31:(Rows.chainNilRow.veiledFits Tryz.pinned.checked.prog Tryz.f7.params.toList (Tryz.f7.params.toList++(OpenSpec.ofChange Rows.chainNilSpec).bare.plain.varTypes Tryz.pinned.checked.prog++Tryz.f7.resultTypes.toList))=true:=by kernel_rfl
theorem closed:joinedFacts Tryz.pinned.checked.prog 7 Tryz.f7 (OpenSpec.ofChange Rows.chainNilSpec).bare Rows.chainNilRow=true:=by
 unfold joinedFacts
 exact (andI (andI (andI (andI (andI (andI (andI (andI (andI (andI (andI (andI (andI (andI (andI (andI (andI (andI (andI (andI (andI (andI (andI (andI (andI (andI (andI (andI (andI (andI (andI jf0 laidOut) cl_rowed) jf3) jf4) jf5) cl_stops) jf7) cl_knobs) jf9) jf10) jf11) jf12) jf13) jf14) jf15) jf16) jf17) jf18) jf19) jf20) jf21) jf22) jf23) cl_heard) cl_enter) jf26) jf27) jf28) jf29) jf30) jf31)
end Go.Proofs.YtndhpgclmgpmoaaGreatDoor.chainNil
