/- Law ClientFull: a client keeps 32 states, the last ones. Conditions: none but the statement's own. -/
import Derived.Test.YtkijoddconipoaaDoorCards
import Derived.Test.YtkijoddconipoaaDoorTie
import Derived.SevenTiedAt
import Derived.Test.YtkijoddconipoaaDoorP1
import Derived.Test.YtkijoddconipoaaDoorP2
import Derived.Test.YtkijoddconipoaaDoorP3
import Derived.Test.YtkijoddconipoaaDoorP4
import Derived.Test.YtkijoddconipoaaDoorQ1
import Derived.Test.YtkijoddconipoaaDoorQ2
import Derived.Test.YtkijoddconipoaaDoorK1
import Derived.Test.YtkijoddconipoaaDoorQ3
import Derived.Test.YtkijoddconipoaaDoorQ5
import Derived.Test.YtkijoddconipoaaDoorR1
import Derived.Test.YtkijoddconipoaaDoorR2
import Derived.Test.YtkijoddconipoaaDoorR3
import Derived.Test.YtkijoddconipoaaDoorR4
import Derived.Test.YtkijoddconipoaaDoorR5
import Derived.Test.YtkijoddconipoaaDoorR7
namespace Go.Proofs.YtkijoddconipoaaDoor.clientFull
open Go Go.ChangeShapes Go.WideShapes Go.ChangeAt Go.RowKit Tw Av
set_option maxRecDepth 100000
theorem params : Tryd.f12.params.toList = [3] := rfl
theorem laid_met (os : Os) : laidMet Tryd.prog Rows.clientFullRow.laid ((laidWorld os).forCall (fun _ _ => 0) ⟨#[], #[((.int .i64 0) : Value)], []⟩).memory :=
  laidMet_of_run' 8 (by kernel_rfl) (by kernel_rfl)
theorem reads (os : Os) {H : Type} (enc : TypeId × Value → H) : ∃ places, DataW.whole enc Tryd.prog ((laidWorld os).forCall (fun _ _ => 0) ⟨#[], #[((.int .i64 0) : Value)], []⟩).memory Tryd.f12.params.toList Rows.clientFullSpec.vars false (#[((.int .i64 0) : Value)] : Array Value).toList 8 = some ([(.lit (.int .i64 0))], [], places) :=
  ⟨[], by kernel_rfl⟩
theorem lifted (os : Os) (started : os.Started) (H : Type) (enc : TypeId × Value → H) (F : Stop.Interp) :
    ReturnsInHanded {} Tryd.checked os 12 .any ((OpenSpec.ofChange Rows.clientFullSpec).preRow enc Tryd.prog Tryd.f12 Rows.clientFullRow.domain false Rows.clientFullRow.laid) (((OpenSpec.ofChange Rows.clientFullSpec).at F).post enc Tryd.prog Tryd.f12 false true false false) := by
  obtain ⟨places, hx⟩ := reads os enc
  refine returnsInHanded_of_row (C := Tryd.checked) (s := OpenSpec.ofChange Rows.clientFullSpec) own started (by kernel_rfl) Tryd.func12
    (witness_row_at (enc := enc) (C := Tryd.checked) false (laidWorld os) #[((.int .i64 0) : Value)] rfl (by kernel_rfl) (by kernel_rfl) (by kernel_rfl)
      (OpenSpec.preRow_of_cond 8 hx (by kernel_rfl) (fun k hk => by cases hk) (by kernel_rfl) (laid_met os))) ?_
  intro W base args ds gs before hval hW _ _ _ hL _ _
  exact law_calls (tb := 4) rfl (by kernel_rfl) rfl laidOut (by kernel_rfl) (rdA_cons (rd_i64 (P := Tryd.prog) (t := 3) (by kernel_rfl)) (rdA_nil)) (fun ds h => by
    match ds, h with
    | [d0], _ => rfl) (fun z hz => by
      obtain ⟨n, _⟩ := z
      exact fnClientFull.spec trivial) (glob_of hL) hval hW
theorem jf0 : (Rows.clientFullRow.wf (OpenSpec.ofChange (OpenSpec.ofChange Rows.clientFullSpec).bare)) = true := by kernel_rfl
theorem jf3 : (Tryd.f12.params.all (Tryd.pinned.checked.prog.readableRec ·)) = true := by kernel_rfl
theorem jf4 : (namedTie Tryd.pinned.checked.prog Rows.clientFullRow.named (OpenSpec.ofChange Rows.clientFullSpec).bare.vars) = true := by kernel_rfl
theorem jf5 : ((Rows.clientFullRow.stops == [])) = true := by kernel_rfl
theorem jf7 : ((Rows.clientFullRow.knobs == [])) = true := by kernel_rfl
theorem jf9 : ((Rows.clientFullRow.inPlace == Tryd.pinned.checked.prog.inPlace 12)) = true := by kernel_rfl
theorem jf10 : ((Rows.clientFullRow.unfollowed == Tryd.pinned.checked.prog.unfollowed 12)) = true := by kernel_rfl
theorem jf11 : ((Rows.clientFullRow.recurses == Tryd.pinned.checked.prog.recurses 12)) = true := by kernel_rfl
theorem jf12 : ((Rows.clientFullRow.named == Tryd.pinned.checked.prog.varsNamed 12)) = true := by kernel_rfl
theorem jf13 : ((Rows.clientFullRow.maps == (Tryd.f12.params.toList ++ (OpenSpec.ofChange Rows.clientFullSpec).bare.plain.varTypes Tryd.pinned.checked.prog).any (Tryd.pinned.checked.prog.mapsRec ·))) = true := by kernel_rfl
theorem jf14 : ((Rows.clientFullRow.ifaces == (Tryd.f12.params.toList ++ (OpenSpec.ofChange Rows.clientFullSpec).bare.plain.varTypes Tryd.pinned.checked.prog).any (Tryd.pinned.checked.prog.ifacesRec ·))) = true := by kernel_rfl
theorem jf15 : ((Rows.clientFullRow.mapsOut == Tryd.pinned.checked.prog.mapsAmong Tryd.f12.resultTypes.toList)) = true := by kernel_rfl
theorem jf16 : ((Rows.clientFullRow.loops == (Tryd.f12.params.toList ++ (OpenSpec.ofChange Rows.clientFullSpec).bare.plain.varTypes Tryd.pinned.checked.prog).any (Tryd.pinned.checked.prog.loopsFrom ·))) = true := by kernel_rfl
theorem jf17 : ((Rows.clientFullRow.wideKeys == (Tryd.f12.params.toList ++ (OpenSpec.ofChange Rows.clientFullSpec).bare.plain.varTypes Tryd.pinned.checked.prog ++ Tryd.f12.resultTypes.toList).any (Tryd.pinned.checked.prog.wideKeysFrom ·))) = true := by kernel_rfl
theorem jf18 : ((OpenSpec.ofChange Rows.clientFullSpec).bare.vars.all (Tryd.pinned.checked.prog.varReadable ·)) = true := by kernel_rfl
theorem jf19 : (Tryd.f12.resultTypes.all (fun t => Tryd.pinned.checked.prog.readableRec t && decide (t < Tryd.pinned.checked.prog.types.size))) = true := by kernel_rfl
theorem jf20 : ((Rows.clientFullRow.ifacesOut == Tryd.f12.resultTypes.toList.any (Tryd.pinned.checked.prog.ifacesRec ·))) = true := by kernel_rfl
theorem jf21 : ((Rows.clientFullRow.loopsOut == Tryd.f12.resultTypes.toList.any (Tryd.pinned.checked.prog.loopsFrom ·))) = true := by kernel_rfl
theorem jf22 : ((Rows.clientFullRow.plainKeys == Tryd.pinned.checked.prog.plainKeys)) = true := by kernel_rfl
theorem jf23 : (Rows.clientFullRow.shortTexts.isNone) = true := by kernel_rfl
theorem jf26 : ((Rows.clientFullRow.lifted == Tryd.pinned.checked.prog.liftsFinal)) = true := by kernel_rfl
theorem jf27 : ((Tryd.pinned.checked.prog.make == some Rows.clientFullRow.make)) = true := by kernel_rfl
theorem jf28 : ((Rows.clientFullRow.kinds == (if Rows.clientFullRow.domain.isEmpty then [] else Tryd.f12.params.toList.map fun t => match Tryd.pinned.checked.prog.underlying t with | some (.int k) => some k | _ => none))) = true := by kernel_rfl
theorem jf29 : ((Rows.clientFullRow.pinned == Rows.clientFullRow.pinnedBy)) = true := by kernel_rfl
theorem jf30 : ((Rows.clientFullRow.veiled == (Tryd.f12.params.toList ++ (OpenSpec.ofChange Rows.clientFullSpec).bare.plain.varTypes Tryd.pinned.checked.prog ++ Tryd.f12.resultTypes.toList).any (Tryd.pinned.checked.prog.veiledRec ·))) = true := by kernel_rfl
theorem jf31 : (Rows.clientFullRow.veiledFits Tryd.pinned.checked.prog Tryd.f12.params.toList (Tryd.f12.params.toList ++ (OpenSpec.ofChange Rows.clientFullSpec).bare.plain.varTypes Tryd.pinned.checked.prog ++ Tryd.f12.resultTypes.toList)) = true := by kernel_rfl
theorem closed : joinedFacts Tryd.pinned.checked.prog 12 Tryd.f12 (OpenSpec.ofChange Rows.clientFullSpec).bare Rows.clientFullRow = true := by
  unfold joinedFacts
  exact (andI (andI (andI (andI (andI (andI (andI (andI (andI (andI (andI (andI (andI (andI (andI (andI (andI (andI (andI (andI (andI (andI (andI (andI (andI (andI (andI (andI (andI (andI (andI jf0 laidOut) cl_rowed) jf3) jf4) jf5) cl_stops) jf7) cl_knobs) jf9) jf10) jf11) jf12) jf13) jf14) jf15) jf16) jf17) jf18) jf19) jf20) jf21) jf22) jf23) cl_heard) cl_enter) jf26) jf27) jf28) jf29) jf30) jf31)
theorem said : Rows.ClientFullSaid :=
  OpenClaim.holds_of_cond 12 Tryd.f12 rfl rfl rfl rfl rfl rfl rfl ⟨rfl, rfl, rfl, rfl, rfl⟩ rfl rfl rfl rfl rfl (by kernel_rfl) Tryd.func12 closed
    (of_decide_eq_true (by kernel_rfl)) (by unfold Func.isWrapper; first | (rw [if_pos (by decide +kernel)]; kernel_rfl) | (rw [if_neg (by decide +kernel)]; exact ⟨rfl, rfl⟩))
    (fun os started H enc _ F => by rw [OpenClaim.pre_eq_preRow]; exact lifted os started H enc F)
theorem plain (f : FuncId) (fn : Func) (hf : Tryd.pinned.checked.prog.funcNamed "twinspan/twinspanlaw14.ClientFull" = some f) (hfn : Tryd.pinned.checked.prog.funcs[f]? = some fn) :
    false = Tryd.pinned.checked.prog.looks [] ∧ ∀ (j : Nat) t, fn.params[j]? = some t → Tryd.pinned.checked.prog.wantsStandIn t = false := by
  obtain rfl : f = 12 := Option.some.inj ((show Tryd.prog.funcNamed "twinspan/twinspanlaw14.ClientFull" = some 12 by kernel_rfl).symm.trans hf) |>.symm
  obtain rfl : fn = Tryd.f12 := (Option.some.inj (Tryd.func12.symm.trans hfn)).symm
  refine ⟨by kernel_rfl, fun j t ht => ?_⟩
  have hall : Tryd.f12.params.toList.all (fun t => !Tryd.prog.wantsStandIn t) = true := by kernel_rfl
  have := List.all_eq_true.1 hall t (by simpa using Array.mem_of_getElem? ht)
  show Tryd.prog.wantsStandIn t = false
  simpa using this
theorem card : Rows.ClientFullCardSaid :=
  Claim7.holds_tied_plain_at .later [] _ _ _ _ said (fun _ h => by cases h) (by kernel_rfl) (fun _ h => by cases h) clientFull_row_tie rfl ⟨rfl, rfl⟩ (by kernel_rfl) rfl plain (by kernel_rfl)
end Go.Proofs.YtkijoddconipoaaDoor.clientFull
