/- . -/
import Derived.Test.YtocpacdnjbjjmaaGreatDoorCards
import Derived.Test.YtocpacdnjbjjmaaGreatDoorTie
import Derived.Test.YtocpacdnjbjjmaaGreatDoorS19
namespace Go.Proofs.YtocpacdnjbjjmaaGreatDoor.chainPlays
open Go Go.ChangeShapes Go.WideShapes Go.ChangeAt Go.RowKit Tw Av
set_option maxRecDepth 100000
theorem jf0:(Rows.chainPlaysRow.wf (OpenSpec.ofChange (OpenSpec.ofChange Rows.chainPlaysSpec).bare))=true:=by kernel_rfl
theorem jf3:(Tryz.f4.params.all (Tryz.pinned.checked.prog.readableRec ·))=true:=by kernel_rfl
theorem jf4:(namedTie Tryz.pinned.checked.prog Rows.chainPlaysRow.named (OpenSpec.ofChange Rows.chainPlaysSpec).bare.vars)=true:=by kernel_rfl
theorem jf5:((Rows.chainPlaysRow.stops == []))=true:=by kernel_rfl
theorem jf7:((Rows.chainPlaysRow.knobs == []))=true:=by kernel_rfl
theorem jf9:((Rows.chainPlaysRow.inPlace == Tryz.pinned.checked.prog.inPlace 4))=true:=by kernel_rfl
theorem jf10:((Rows.chainPlaysRow.unfollowed == Tryz.pinned.checked.prog.unfollowed 4))=true:=by kernel_rfl
theorem jf11:((Rows.chainPlaysRow.recurses == Tryz.pinned.checked.prog.recurses 4))=true:=by kernel_rfl
theorem jf12:((Rows.chainPlaysRow.named == Tryz.pinned.checked.prog.varsNamed 4))=true:=by kernel_rfl
theorem jf13:((Rows.chainPlaysRow.maps == (Tryz.f4.params.toList++(OpenSpec.ofChange Rows.chainPlaysSpec).bare.plain.varTypes Tryz.pinned.checked.prog).any (Tryz.pinned.checked.prog.mapsRec ·)))=true:=by kernel_rfl
theorem jf14:((Rows.chainPlaysRow.ifaces == (Tryz.f4.params.toList++(OpenSpec.ofChange Rows.chainPlaysSpec).bare.plain.varTypes Tryz.pinned.checked.prog).any (Tryz.pinned.checked.prog.ifacesRec ·)))=true:=by kernel_rfl
theorem jf15:((Rows.chainPlaysRow.mapsOut == Tryz.pinned.checked.prog.mapsAmong Tryz.f4.resultTypes.toList))=true:=by kernel_rfl
theorem jf16:((Rows.chainPlaysRow.loops == (Tryz.f4.params.toList++(OpenSpec.ofChange Rows.chainPlaysSpec).bare.plain.varTypes Tryz.pinned.checked.prog).any (Tryz.pinned.checked.prog.loopsFrom ·)))=true:=by kernel_rfl
theorem jf17:((Rows.chainPlaysRow.wideKeys == (Tryz.f4.params.toList++(OpenSpec.ofChange Rows.chainPlaysSpec).bare.plain.varTypes Tryz.pinned.checked.prog++Tryz.f4.resultTypes.toList).any (Tryz.pinned.checked.prog.wideKeysFrom ·)))=true:=by kernel_rfl
theorem jf18:((OpenSpec.ofChange Rows.chainPlaysSpec).bare.vars.all (Tryz.pinned.checked.prog.varReadable ·))=true:=by kernel_rfl
theorem jf19:(Tryz.f4.resultTypes.all (fun t=>Tryz.pinned.checked.prog.readableRec t && decide (t < Tryz.pinned.checked.prog.types.size)))=true:=by kernel_rfl
theorem jf20:((Rows.chainPlaysRow.ifacesOut == Tryz.f4.resultTypes.toList.any (Tryz.pinned.checked.prog.ifacesRec ·)))=true:=by kernel_rfl
theorem jf21:((Rows.chainPlaysRow.loopsOut == Tryz.f4.resultTypes.toList.any (Tryz.pinned.checked.prog.loopsFrom ·)))=true:=by kernel_rfl
theorem jf22:((Rows.chainPlaysRow.plainKeys == Tryz.pinned.checked.prog.plainKeys))=true:=by kernel_rfl
theorem jf23:(Rows.chainPlaysRow.shortTexts.isNone)=true:=by kernel_rfl
theorem jf26:((Rows.chainPlaysRow.lifted == Tryz.pinned.checked.prog.liftsFinal))=true:=by kernel_rfl
theorem jf27:((Tryz.pinned.checked.prog.make == some Rows.chainPlaysRow.make))=true:=by kernel_rfl
theorem jf28:((Rows.chainPlaysRow.kinds == (if Rows.chainPlaysRow.domain.isEmpty then [] else Tryz.f4.params.toList.map fun t=>match Tryz.pinned.checked.prog.underlying t with|some (.int k)=>some k|_=>none)))=true:=by kernel_rfl
theorem jf29:((Rows.chainPlaysRow.pinned == Rows.chainPlaysRow.pinnedBy))=true:=by kernel_rfl
theorem jf30:((Rows.chainPlaysRow.veiled == (Tryz.f4.params.toList++(OpenSpec.ofChange Rows.chainPlaysSpec).bare.plain.varTypes Tryz.pinned.checked.prog++Tryz.f4.resultTypes.toList).any (Tryz.pinned.checked.prog.veiledRec ·)))=true:=by kernel_rfl
theorem jf31:(Rows.chainPlaysRow.veiledFits Tryz.pinned.checked.prog Tryz.f4.params.toList (Tryz.f4.params.toList++(OpenSpec.ofChange Rows.chainPlaysSpec).bare.plain.varTypes Tryz.pinned.checked.prog++Tryz.f4.resultTypes.toList))=true:=by kernel_rfl
theorem closed:joinedFacts Tryz.pinned.checked.prog 4 Tryz.f4 (OpenSpec.ofChange Rows.chainPlaysSpec).bare Rows.chainPlaysRow=true:=by
 unfold joinedFacts
 exact (I1 (I1 (I1 (I1 (I1 (I1 (I1 (I1 (I1 (I1 (I1 (I1 (I1 (I1 (I1 (I1 (I1 (I1 (I1 (I1 (I1 (I1 (I1 (I1 (I1 (I1 (I1 (I1 (I1 (I1 (I1 jf0 laidOut) Mw) jf3) jf4) jf5) Mv) jf7) Mx) jf9) jf10) jf11) jf12) jf13) jf14) jf15) jf16) jf17) jf18) jf19) jf20) jf21) jf22) jf23) Na) Nb) jf26) jf27) jf28) jf29) jf30) jf31)
end Go.Proofs.YtocpacdnjbjjmaaGreatDoor.chainPlays
