/- . -/
import Derived.Test.YtocpacdnjbjjmaaGreatDoorCards
import Derived.Test.YtocpacdnjbjjmaaGreatDoorTie
import Derived.Test.YtocpacdnjbjjmaaGreatDoorS19
namespace Go.Proofs.YtocpacdnjbjjmaaGreatDoor.chainHeaders
open Go Go.ChangeShapes Go.WideShapes Go.ChangeAt Go.RowKit Tw Av
set_option maxRecDepth 100000
theorem jf0:(Rows.chainHeadersRow.wf (OpenSpec.ofChange (OpenSpec.ofChange Rows.chainHeadersSpec).bare))=true:=by kernel_rfl
theorem jf3:(Tryz.f3.params.all (Tryz.pinned.checked.prog.readableRec ·))=true:=by kernel_rfl
theorem jf4:(namedTie Tryz.pinned.checked.prog Rows.chainHeadersRow.named (OpenSpec.ofChange Rows.chainHeadersSpec).bare.vars)=true:=by kernel_rfl
theorem jf5:((Rows.chainHeadersRow.stops == []))=true:=by kernel_rfl
theorem jf7:((Rows.chainHeadersRow.knobs == []))=true:=by kernel_rfl
theorem jf9:((Rows.chainHeadersRow.inPlace == Tryz.pinned.checked.prog.inPlace 3))=true:=by kernel_rfl
theorem jf10:((Rows.chainHeadersRow.unfollowed == Tryz.pinned.checked.prog.unfollowed 3))=true:=by kernel_rfl
theorem jf11:((Rows.chainHeadersRow.recurses == Tryz.pinned.checked.prog.recurses 3))=true:=by kernel_rfl
theorem jf12:((Rows.chainHeadersRow.named == Tryz.pinned.checked.prog.varsNamed 3))=true:=by kernel_rfl
theorem jf13:((Rows.chainHeadersRow.maps == (Tryz.f3.params.toList++(OpenSpec.ofChange Rows.chainHeadersSpec).bare.plain.varTypes Tryz.pinned.checked.prog).any (Tryz.pinned.checked.prog.mapsRec ·)))=true:=by kernel_rfl
theorem jf14:((Rows.chainHeadersRow.ifaces == (Tryz.f3.params.toList++(OpenSpec.ofChange Rows.chainHeadersSpec).bare.plain.varTypes Tryz.pinned.checked.prog).any (Tryz.pinned.checked.prog.ifacesRec ·)))=true:=by kernel_rfl
theorem jf15:((Rows.chainHeadersRow.mapsOut == Tryz.pinned.checked.prog.mapsAmong Tryz.f3.resultTypes.toList))=true:=by kernel_rfl
theorem jf16:((Rows.chainHeadersRow.loops == (Tryz.f3.params.toList++(OpenSpec.ofChange Rows.chainHeadersSpec).bare.plain.varTypes Tryz.pinned.checked.prog).any (Tryz.pinned.checked.prog.loopsFrom ·)))=true:=by kernel_rfl
theorem jf17:((Rows.chainHeadersRow.wideKeys == (Tryz.f3.params.toList++(OpenSpec.ofChange Rows.chainHeadersSpec).bare.plain.varTypes Tryz.pinned.checked.prog++Tryz.f3.resultTypes.toList).any (Tryz.pinned.checked.prog.wideKeysFrom ·)))=true:=by kernel_rfl
theorem jf18:((OpenSpec.ofChange Rows.chainHeadersSpec).bare.vars.all (Tryz.pinned.checked.prog.varReadable ·))=true:=by kernel_rfl
theorem jf19:(Tryz.f3.resultTypes.all (fun t=>Tryz.pinned.checked.prog.readableRec t && decide (t < Tryz.pinned.checked.prog.types.size)))=true:=by kernel_rfl
theorem jf20:((Rows.chainHeadersRow.ifacesOut == Tryz.f3.resultTypes.toList.any (Tryz.pinned.checked.prog.ifacesRec ·)))=true:=by kernel_rfl
theorem jf21:((Rows.chainHeadersRow.loopsOut == Tryz.f3.resultTypes.toList.any (Tryz.pinned.checked.prog.loopsFrom ·)))=true:=by kernel_rfl
theorem jf22:((Rows.chainHeadersRow.plainKeys == Tryz.pinned.checked.prog.plainKeys))=true:=by kernel_rfl
theorem jf23:(Rows.chainHeadersRow.shortTexts.isNone)=true:=by kernel_rfl
theorem jf26:((Rows.chainHeadersRow.lifted == Tryz.pinned.checked.prog.liftsFinal))=true:=by kernel_rfl
theorem jf27:((Tryz.pinned.checked.prog.make == some Rows.chainHeadersRow.make))=true:=by kernel_rfl
theorem jf28:((Rows.chainHeadersRow.kinds == (if Rows.chainHeadersRow.domain.isEmpty then [] else Tryz.f3.params.toList.map fun t=>match Tryz.pinned.checked.prog.underlying t with|some (.int k)=>some k|_=>none)))=true:=by kernel_rfl
theorem jf29:((Rows.chainHeadersRow.pinned == Rows.chainHeadersRow.pinnedBy))=true:=by kernel_rfl
theorem jf30:((Rows.chainHeadersRow.veiled == (Tryz.f3.params.toList++(OpenSpec.ofChange Rows.chainHeadersSpec).bare.plain.varTypes Tryz.pinned.checked.prog++Tryz.f3.resultTypes.toList).any (Tryz.pinned.checked.prog.veiledRec ·)))=true:=by kernel_rfl
theorem jf31:(Rows.chainHeadersRow.veiledFits Tryz.pinned.checked.prog Tryz.f3.params.toList (Tryz.f3.params.toList++(OpenSpec.ofChange Rows.chainHeadersSpec).bare.plain.varTypes Tryz.pinned.checked.prog++Tryz.f3.resultTypes.toList))=true:=by kernel_rfl
theorem closed:joinedFacts Tryz.pinned.checked.prog 3 Tryz.f3 (OpenSpec.ofChange Rows.chainHeadersSpec).bare Rows.chainHeadersRow=true:=by
 unfold joinedFacts
 exact (I1 (I1 (I1 (I1 (I1 (I1 (I1 (I1 (I1 (I1 (I1 (I1 (I1 (I1 (I1 (I1 (I1 (I1 (I1 (I1 (I1 (I1 (I1 (I1 (I1 (I1 (I1 (I1 (I1 (I1 (I1 jf0 laidOut) Mw) jf3) jf4) jf5) Mv) jf7) Mx) jf9) jf10) jf11) jf12) jf13) jf14) jf15) jf16) jf17) jf18) jf19) jf20) jf21) jf22) jf23) Na) Nb) jf26) jf27) jf28) jf29) jf30) jf31)
end Go.Proofs.YtocpacdnjbjjmaaGreatDoor.chainHeaders
