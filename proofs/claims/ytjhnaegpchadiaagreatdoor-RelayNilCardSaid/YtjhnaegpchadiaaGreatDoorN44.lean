/- . -/
import Derived.Test.YtjhnaegpchadiaaGreatDoorCards
import Derived.Test.YtjhnaegpchadiaaGreatDoorTie
import Derived.Test.YtjhnaegpchadiaaGreatDoorN16
namespace Go.Proofs.YtjhnaegpchadiaaGreatDoor.relayNil
open Go Go.ChangeShapes Go.WideShapes Go.ChangeAt Go.RowKit Tw Av
set_option maxRecDepth 100000
theorem jf0:(Rows.relayNilRow.wf (OpenSpec.ofChange (OpenSpec.ofChange Rows.relayNilSpec).bare))=true:=by kernel_rfl
theorem jf3:(Tryz.f4.params.all (Tryz.pinned.checked.prog.readableRec ·))=true:=by kernel_rfl
theorem jf4:(namedTie Tryz.pinned.checked.prog Rows.relayNilRow.named (OpenSpec.ofChange Rows.relayNilSpec).bare.vars)=true:=by kernel_rfl
theorem jf5:((Rows.relayNilRow.stops == []))=true:=by kernel_rfl
theorem jf7:((Rows.relayNilRow.knobs == []))=true:=by kernel_rfl
theorem jf9:((Rows.relayNilRow.inPlace == Tryz.pinned.checked.prog.inPlace 4))=true:=by kernel_rfl
theorem jf10:((Rows.relayNilRow.unfollowed == Tryz.pinned.checked.prog.unfollowed 4))=true:=by kernel_rfl
theorem jf11:((Rows.relayNilRow.recurses == Tryz.pinned.checked.prog.recurses 4))=true:=by kernel_rfl
theorem jf12:((Rows.relayNilRow.named == Tryz.pinned.checked.prog.varsNamed 4))=true:=by kernel_rfl
theorem jf13:((Rows.relayNilRow.maps == (Tryz.f4.params.toList++(OpenSpec.ofChange Rows.relayNilSpec).bare.plain.varTypes Tryz.pinned.checked.prog).any (Tryz.pinned.checked.prog.mapsRec ·)))=true:=by kernel_rfl
theorem jf14:((Rows.relayNilRow.ifaces == (Tryz.f4.params.toList++(OpenSpec.ofChange Rows.relayNilSpec).bare.plain.varTypes Tryz.pinned.checked.prog).any (Tryz.pinned.checked.prog.ifacesRec ·)))=true:=by kernel_rfl
theorem jf15:((Rows.relayNilRow.mapsOut == Tryz.pinned.checked.prog.mapsAmong Tryz.f4.resultTypes.toList))=true:=by kernel_rfl
theorem jf16:((Rows.relayNilRow.loops == (Tryz.f4.params.toList++(OpenSpec.ofChange Rows.relayNilSpec).bare.plain.varTypes Tryz.pinned.checked.prog).any (Tryz.pinned.checked.prog.loopsFrom ·)))=true:=by kernel_rfl
theorem jf17:((Rows.relayNilRow.wideKeys == (Tryz.f4.params.toList++(OpenSpec.ofChange Rows.relayNilSpec).bare.plain.varTypes Tryz.pinned.checked.prog++Tryz.f4.resultTypes.toList).any (Tryz.pinned.checked.prog.wideKeysFrom ·)))=true:=by kernel_rfl
theorem jf18:((OpenSpec.ofChange Rows.relayNilSpec).bare.vars.all (Tryz.pinned.checked.prog.varReadable ·))=true:=by kernel_rfl
theorem jf19:(Tryz.f4.resultTypes.all (fun t=>Tryz.pinned.checked.prog.readableRec t && decide (t < Tryz.pinned.checked.prog.types.size)))=true:=by kernel_rfl
theorem jf20:((Rows.relayNilRow.ifacesOut == Tryz.f4.resultTypes.toList.any (Tryz.pinned.checked.prog.ifacesRec ·)))=true:=by kernel_rfl
theorem jf21:((Rows.relayNilRow.loopsOut == Tryz.f4.resultTypes.toList.any (Tryz.pinned.checked.prog.loopsFrom ·)))=true:=by kernel_rfl
theorem jf22:((Rows.relayNilRow.plainKeys == Tryz.pinned.checked.prog.plainKeys))=true:=by kernel_rfl
theorem jf23:(Rows.relayNilRow.shortTexts.isNone)=true:=by kernel_rfl
theorem jf26:((Rows.relayNilRow.lifted == Tryz.pinned.checked.prog.liftsFinal))=true:=by kernel_rfl
theorem jf27:((Tryz.pinned.checked.prog.make == some Rows.relayNilRow.make))=true:=by kernel_rfl
theorem jf28:((Rows.relayNilRow.kinds == (if Rows.relayNilRow.domain.isEmpty then [] else Tryz.f4.params.toList.map fun t=>match Tryz.pinned.checked.prog.underlying t with|some (.int k)=>some k|_=>none)))=true:=by kernel_rfl
theorem jf29:((Rows.relayNilRow.pinned == Rows.relayNilRow.pinnedBy))=true:=by kernel_rfl
theorem jf30:((Rows.relayNilRow.veiled == (Tryz.f4.params.toList++(OpenSpec.ofChange Rows.relayNilSpec).bare.plain.varTypes Tryz.pinned.checked.prog++Tryz.f4.resultTypes.toList).any (Tryz.pinned.checked.prog.veiledRec ·)))=true:=by kernel_rfl
theorem jf31:(Rows.relayNilRow.veiledFits Tryz.pinned.checked.prog Tryz.f4.params.toList (Tryz.f4.params.toList++(OpenSpec.ofChange Rows.relayNilSpec).bare.plain.varTypes Tryz.pinned.checked.prog++Tryz.f4.resultTypes.toList))=true:=by kernel_rfl
theorem closed:joinedFacts Tryz.pinned.checked.prog 4 Tryz.f4 (OpenSpec.ofChange Rows.relayNilSpec).bare Rows.relayNilRow=true:=by
 unfold joinedFacts
 exact (I7 (I7 (I7 (I7 (I7 (I7 (I7 (I7 (I7 (I7 (I7 (I7 (I7 (I7 (I7 (I7 (I7 (I7 (I7 (I7 (I7 (I7 (I7 (I7 (I7 (I7 (I7 (I7 (I7 (I7 (I7 jf0 laidOut) Jp) jf3) jf4) jf5) Jo) jf7) Jq) jf9) jf10) jf11) jf12) jf13) jf14) jf15) jf16) jf17) jf18) jf19) jf20) jf21) jf22) jf23) Jr) Js) jf26) jf27) jf28) jf29) jf30) jf31)
end Go.Proofs.YtjhnaegpchadiaaGreatDoor.relayNil
