/- . -/
import Derived.Test.YtjhnaegpchadiaaGreatDoorCards
import Derived.Test.YtjhnaegpchadiaaGreatDoorTie
import Derived.Test.YtjhnaegpchadiaaGreatDoorN16
namespace Go.Proofs.YtjhnaegpchadiaaGreatDoor.relayKnows
open Go Go.ChangeShapes Go.WideShapes Go.ChangeAt Go.RowKit Tw Av
set_option maxRecDepth 100000
theorem jf0:(Rows.relayKnowsRow.wf (OpenSpec.ofChange (OpenSpec.ofChange Rows.relayKnowsSpec).bare))=true:=by kernel_rfl
theorem jf3:(Tryz.f3.params.all (Tryz.pinned.checked.prog.readableRec ·))=true:=by kernel_rfl
theorem jf4:(namedTie Tryz.pinned.checked.prog Rows.relayKnowsRow.named (OpenSpec.ofChange Rows.relayKnowsSpec).bare.vars)=true:=by kernel_rfl
theorem jf5:((Rows.relayKnowsRow.stops == []))=true:=by kernel_rfl
theorem jf7:((Rows.relayKnowsRow.knobs == []))=true:=by kernel_rfl
theorem jf9:((Rows.relayKnowsRow.inPlace == Tryz.pinned.checked.prog.inPlace 3))=true:=by kernel_rfl
theorem jf10:((Rows.relayKnowsRow.unfollowed == Tryz.pinned.checked.prog.unfollowed 3))=true:=by kernel_rfl
theorem jf11:((Rows.relayKnowsRow.recurses == Tryz.pinned.checked.prog.recurses 3))=true:=by kernel_rfl
theorem jf12:((Rows.relayKnowsRow.named == Tryz.pinned.checked.prog.varsNamed 3))=true:=by kernel_rfl
theorem jf13:((Rows.relayKnowsRow.maps == (Tryz.f3.params.toList++(OpenSpec.ofChange Rows.relayKnowsSpec).bare.plain.varTypes Tryz.pinned.checked.prog).any (Tryz.pinned.checked.prog.mapsRec ·)))=true:=by kernel_rfl
theorem jf14:((Rows.relayKnowsRow.ifaces == (Tryz.f3.params.toList++(OpenSpec.ofChange Rows.relayKnowsSpec).bare.plain.varTypes Tryz.pinned.checked.prog).any (Tryz.pinned.checked.prog.ifacesRec ·)))=true:=by kernel_rfl
theorem jf15:((Rows.relayKnowsRow.mapsOut == Tryz.pinned.checked.prog.mapsAmong Tryz.f3.resultTypes.toList))=true:=by kernel_rfl
theorem jf16:((Rows.relayKnowsRow.loops == (Tryz.f3.params.toList++(OpenSpec.ofChange Rows.relayKnowsSpec).bare.plain.varTypes Tryz.pinned.checked.prog).any (Tryz.pinned.checked.prog.loopsFrom ·)))=true:=by kernel_rfl
theorem jf17:((Rows.relayKnowsRow.wideKeys == (Tryz.f3.params.toList++(OpenSpec.ofChange Rows.relayKnowsSpec).bare.plain.varTypes Tryz.pinned.checked.prog++Tryz.f3.resultTypes.toList).any (Tryz.pinned.checked.prog.wideKeysFrom ·)))=true:=by kernel_rfl
theorem jf18:((OpenSpec.ofChange Rows.relayKnowsSpec).bare.vars.all (Tryz.pinned.checked.prog.varReadable ·))=true:=by kernel_rfl
theorem jf19:(Tryz.f3.resultTypes.all (fun t=>Tryz.pinned.checked.prog.readableRec t && decide (t < Tryz.pinned.checked.prog.types.size)))=true:=by kernel_rfl
theorem jf20:((Rows.relayKnowsRow.ifacesOut == Tryz.f3.resultTypes.toList.any (Tryz.pinned.checked.prog.ifacesRec ·)))=true:=by kernel_rfl
theorem jf21:((Rows.relayKnowsRow.loopsOut == Tryz.f3.resultTypes.toList.any (Tryz.pinned.checked.prog.loopsFrom ·)))=true:=by kernel_rfl
theorem jf22:((Rows.relayKnowsRow.plainKeys == Tryz.pinned.checked.prog.plainKeys))=true:=by kernel_rfl
theorem jf23:(Rows.relayKnowsRow.shortTexts.isNone)=true:=by kernel_rfl
theorem jf26:((Rows.relayKnowsRow.lifted == Tryz.pinned.checked.prog.liftsFinal))=true:=by kernel_rfl
theorem jf27:((Tryz.pinned.checked.prog.make == some Rows.relayKnowsRow.make))=true:=by kernel_rfl
theorem jf28:((Rows.relayKnowsRow.kinds == (if Rows.relayKnowsRow.domain.isEmpty then [] else Tryz.f3.params.toList.map fun t=>match Tryz.pinned.checked.prog.underlying t with|some (.int k)=>some k|_=>none)))=true:=by kernel_rfl
theorem jf29:((Rows.relayKnowsRow.pinned == Rows.relayKnowsRow.pinnedBy))=true:=by kernel_rfl
theorem jf30:((Rows.relayKnowsRow.veiled == (Tryz.f3.params.toList++(OpenSpec.ofChange Rows.relayKnowsSpec).bare.plain.varTypes Tryz.pinned.checked.prog++Tryz.f3.resultTypes.toList).any (Tryz.pinned.checked.prog.veiledRec ·)))=true:=by kernel_rfl
theorem jf31:(Rows.relayKnowsRow.veiledFits Tryz.pinned.checked.prog Tryz.f3.params.toList (Tryz.f3.params.toList++(OpenSpec.ofChange Rows.relayKnowsSpec).bare.plain.varTypes Tryz.pinned.checked.prog++Tryz.f3.resultTypes.toList))=true:=by kernel_rfl
theorem closed:joinedFacts Tryz.pinned.checked.prog 3 Tryz.f3 (OpenSpec.ofChange Rows.relayKnowsSpec).bare Rows.relayKnowsRow=true:=by
 unfold joinedFacts
 exact (I7 (I7 (I7 (I7 (I7 (I7 (I7 (I7 (I7 (I7 (I7 (I7 (I7 (I7 (I7 (I7 (I7 (I7 (I7 (I7 (I7 (I7 (I7 (I7 (I7 (I7 (I7 (I7 (I7 (I7 (I7 jf0 laidOut) Jp) jf3) jf4) jf5) Jo) jf7) Jq) jf9) jf10) jf11) jf12) jf13) jf14) jf15) jf16) jf17) jf18) jf19) jf20) jf21) jf22) jf23) Jr) Js) jf26) jf27) jf28) jf29) jf30) jf31)
end Go.Proofs.YtjhnaegpchadiaaGreatDoor.relayKnows
