/- Law ClientEither: two headers that don't conflict make the same client in either order. Conditions: none but the statement's own. -/
import Derived.Test.YtkijoddconipoaaDoorCards
import Derived.Test.YtkijoddconipoaaDoorTie
import Derived.SevenTiedAt
import Derived.Test.YtkijoddconipoaaDoorP1
import Derived.Test.YtkijoddconipoaaDoorP2
import Derived.Test.YtkijoddconipoaaDoorP3
import Derived.Test.YtkijoddconipoaaDoorP4
import Derived.Test.YtkijoddconipoaaDoorQ1
import Derived.Test.YtkijoddconipoaaDoorQ2
import Derived.Test.YtkijoddconipoaaDoorK1
import Derived.Test.YtkijoddconipoaaDoorQ3
import Derived.Test.YtkijoddconipoaaDoorQ5
import Derived.Test.YtkijoddconipoaaDoorR1
import Derived.Test.YtkijoddconipoaaDoorR2
import Derived.Test.YtkijoddconipoaaDoorR3
import Derived.Test.YtkijoddconipoaaDoorR4
import Derived.Test.YtkijoddconipoaaDoorR5
import Derived.Test.YtkijoddconipoaaDoorR7
import Derived.Test.YtkijoddconipoaaDoorR6
namespace Go.Proofs.YtkijoddconipoaaDoor.clientEither
open Go Go.ChangeShapes Go.WideShapes Go.ChangeAt Go.RowKit Tw Av
set_option maxRecDepth 100000
theorem params : Tryd.f9.params.toList = [66] := rfl
theorem laid_met (os : Os) : laidMet Tryd.prog Rows.clientEitherRow.laid ((laidWorld os).forCall (fun _ _ => 0) ⟨#[], #[((.agg #[(.int .i64 0), (.int .i64 0), (.int .i64 0), (.int .i64 0)]) : Value)], []⟩).memory :=
  laidMet_of_run' 8 (by kernel_rfl) (by kernel_rfl)
theorem reads (os : Os) {H : Type} (enc : TypeId × Value → H) : ∃ places, DataW.whole enc Tryd.prog ((laidWorld os).forCall (fun _ _ => 0) ⟨#[], #[((.agg #[(.int .i64 0), (.int .i64 0), (.int .i64 0), (.int .i64 0)]) : Value)], []⟩).memory Tryd.f9.params.toList Rows.clientEitherSpec.vars false (#[((.agg #[(.int .i64 0), (.int .i64 0), (.int .i64 0), (.int .i64 0)]) : Value)] : Array Value).toList 8 = some ([(.agg [(.lit (.int .i64 0)), (.lit (.int .i64 0)), (.lit (.int .i64 0)), (.lit (.int .i64 0))])], [], places) :=
  ⟨[], by kernel_rfl⟩
theorem lifted (os : Os) (started : os.Started) (H : Type) (enc : TypeId × Value → H) (F : Stop.Interp) :
    ReturnsInHanded {} Tryd.checked os 9 .any ((OpenSpec.ofChange Rows.clientEitherSpec).preRow enc Tryd.prog Tryd.f9 Rows.clientEitherRow.domain false Rows.clientEitherRow.laid) (((OpenSpec.ofChange Rows.clientEitherSpec).at F).post enc Tryd.prog Tryd.f9 false true false false) := by
  obtain ⟨places, hx⟩ := reads os enc
  refine returnsInHanded_of_row (C := Tryd.checked) (s := OpenSpec.ofChange Rows.clientEitherSpec) own started (by kernel_rfl) Tryd.func9
    (witness_row_at (enc := enc) (C := Tryd.checked) false (laidWorld os) #[((.agg #[(.int .i64 0), (.int .i64 0), (.int .i64 0), (.int .i64 0)]) : Value)] rfl (by kernel_rfl) (by kernel_rfl) (by kernel_rfl)
      (OpenSpec.preRow_of_cond 8 hx (by kernel_rfl) (fun k hk => by cases hk) (by kernel_rfl) (laid_met os))) ?_
  intro W base args ds gs before hval hW _ _ _ hL _ _
  exact law_calls (tb := 4) rfl (by kernel_rfl) rfl laidOut (by kernel_rfl) (rdA_cons (rd_array (P := Tryd.prog) (t := 66) (rd_i64 (P := Tryd.prog) (t := 3) (by kernel_rfl)) (n := 4) (k := 1) (tot := 4) (by kernel_rfl) (by kernel_rfl) (by kernel_rfl) (by kernel_rfl)) (rdA_nil)) (fun ds h => by
    match ds, h with
    | [d0], _ => rfl) (fun z hz => by
      obtain ⟨w, _⟩ := z
      obtain ⟨⟨hl, _⟩, _⟩ := hz
      match w, hl with
      | [a, b, c, d], _ => exact fnClientEither.spec trivial) (glob_of hL) hval hW
theorem jf0 : (Rows.clientEitherRow.wf (OpenSpec.ofChange (OpenSpec.ofChange Rows.clientEitherSpec).bare)) = true := by kernel_rfl
theorem jf3 : (Tryd.f9.params.all (Tryd.pinned.checked.prog.readableRec ·)) = true := by kernel_rfl
theorem jf4 : (namedTie Tryd.pinned.checked.prog Rows.clientEitherRow.named (OpenSpec.ofChange Rows.clientEitherSpec).bare.vars) = true := by kernel_rfl
theorem jf5 : ((Rows.clientEitherRow.stops == [])) = true := by kernel_rfl
theorem jf7 : ((Rows.clientEitherRow.knobs == [])) = true := by kernel_rfl
theorem jf9 : ((Rows.clientEitherRow.inPlace == Tryd.pinned.checked.prog.inPlace 9)) = true := by kernel_rfl
theorem jf10 : ((Rows.clientEitherRow.unfollowed == Tryd.pinned.checked.prog.unfollowed 9)) = true := by kernel_rfl
theorem jf11 : ((Rows.clientEitherRow.recurses == Tryd.pinned.checked.prog.recurses 9)) = true := by kernel_rfl
theorem jf12 : ((Rows.clientEitherRow.named == Tryd.pinned.checked.prog.varsNamed 9)) = true := by kernel_rfl
theorem jf13 : ((Rows.clientEitherRow.maps == (Tryd.f9.params.toList ++ (OpenSpec.ofChange Rows.clientEitherSpec).bare.plain.varTypes Tryd.pinned.checked.prog).any (Tryd.pinned.checked.prog.mapsRec ·))) = true := by kernel_rfl
theorem jf14 : ((Rows.clientEitherRow.ifaces == (Tryd.f9.params.toList ++ (OpenSpec.ofChange Rows.clientEitherSpec).bare.plain.varTypes Tryd.pinned.checked.prog).any (Tryd.pinned.checked.prog.ifacesRec ·))) = true := by kernel_rfl
theorem jf15 : ((Rows.clientEitherRow.mapsOut == Tryd.pinned.checked.prog.mapsAmong Tryd.f9.resultTypes.toList)) = true := by kernel_rfl
theorem jf16 : ((Rows.clientEitherRow.loops == (Tryd.f9.params.toList ++ (OpenSpec.ofChange Rows.clientEitherSpec).bare.plain.varTypes Tryd.pinned.checked.prog).any (Tryd.pinned.checked.prog.loopsFrom ·))) = true := by kernel_rfl
theorem jf17 : ((Rows.clientEitherRow.wideKeys == (Tryd.f9.params.toList ++ (OpenSpec.ofChange Rows.clientEitherSpec).bare.plain.varTypes Tryd.pinned.checked.prog ++ Tryd.f9.resultTypes.toList).any (Tryd.pinned.checked.prog.wideKeysFrom ·))) = true := by kernel_rfl
theorem jf18 : ((OpenSpec.ofChange Rows.clientEitherSpec).bare.vars.all (Tryd.pinned.checked.prog.varReadable ·)) = true := by kernel_rfl
theorem jf19 : (Tryd.f9.resultTypes.all (fun t => Tryd.pinned.checked.prog.readableRec t && decide (t < Tryd.pinned.checked.prog.types.size))) = true := by kernel_rfl
theorem jf20 : ((Rows.clientEitherRow.ifacesOut == Tryd.f9.resultTypes.toList.any (Tryd.pinned.checked.prog.ifacesRec ·))) = true := by kernel_rfl
theorem jf21 : ((Rows.clientEitherRow.loopsOut == Tryd.f9.resultTypes.toList.any (Tryd.pinned.checked.prog.loopsFrom ·))) = true := by kernel_rfl
theorem jf22 : ((Rows.clientEitherRow.plainKeys == Tryd.pinned.checked.prog.plainKeys)) = true := by kernel_rfl
theorem jf23 : (Rows.clientEitherRow.shortTexts.isNone) = true := by kernel_rfl
theorem jf26 : ((Rows.clientEitherRow.lifted == Tryd.pinned.checked.prog.liftsFinal)) = true := by kernel_rfl
theorem jf27 : ((Tryd.pinned.checked.prog.make == some Rows.clientEitherRow.make)) = true := by kernel_rfl
theorem jf28 : ((Rows.clientEitherRow.kinds == (if Rows.clientEitherRow.domain.isEmpty then [] else Tryd.f9.params.toList.map fun t => match Tryd.pinned.checked.prog.underlying t with | some (.int k) => some k | _ => none))) = true := by kernel_rfl
theorem jf29 : ((Rows.clientEitherRow.pinned == Rows.clientEitherRow.pinnedBy)) = true := by kernel_rfl
theorem jf30 : ((Rows.clientEitherRow.veiled == (Tryd.f9.params.toList ++ (OpenSpec.ofChange Rows.clientEitherSpec).bare.plain.varTypes Tryd.pinned.checked.prog ++ Tryd.f9.resultTypes.toList).any (Tryd.pinned.checked.prog.veiledRec ·))) = true := by kernel_rfl
theorem jf31 : (Rows.clientEitherRow.veiledFits Tryd.pinned.checked.prog Tryd.f9.params.toList (Tryd.f9.params.toList ++ (OpenSpec.ofChange Rows.clientEitherSpec).bare.plain.varTypes Tryd.pinned.checked.prog ++ Tryd.f9.resultTypes.toList)) = true := by kernel_rfl
theorem closed : joinedFacts Tryd.pinned.checked.prog 9 Tryd.f9 (OpenSpec.ofChange Rows.clientEitherSpec).bare Rows.clientEitherRow = true := by
  unfold joinedFacts
  exact (andI (andI (andI (andI (andI (andI (andI (andI (andI (andI (andI (andI (andI (andI (andI (andI (andI (andI (andI (andI (andI (andI (andI (andI (andI (andI (andI (andI (andI (andI (andI jf0 laidOut) cl_rowed) jf3) jf4) jf5) cl_stops) jf7) cl_knobs) jf9) jf10) jf11) jf12) jf13) jf14) jf15) jf16) jf17) jf18) jf19) jf20) jf21) jf22) jf23) cl_heard) cl_enter) jf26) jf27) jf28) jf29) jf30) jf31)
theorem said : Rows.ClientEitherSaid :=
  OpenClaim.holds_of_cond 9 Tryd.f9 rfl rfl rfl rfl rfl rfl rfl ⟨rfl, rfl, rfl, rfl, rfl⟩ rfl rfl rfl rfl rfl (by kernel_rfl) Tryd.func9 closed
    (of_decide_eq_true (by kernel_rfl)) (by unfold Func.isWrapper; first | (rw [if_pos (by decide +kernel)]; kernel_rfl) | (rw [if_neg (by decide +kernel)]; exact ⟨rfl, rfl⟩))
    (fun os started H enc _ F => by rw [OpenClaim.pre_eq_preRow]; exact lifted os started H enc F)
theorem plain (f : FuncId) (fn : Func) (hf : Tryd.pinned.checked.prog.funcNamed "twinspan/twinspanlaw14.ClientEither" = some f) (hfn : Tryd.pinned.checked.prog.funcs[f]? = some fn) :
    false = Tryd.pinned.checked.prog.looks [] ∧ ∀ (j : Nat) t, fn.params[j]? = some t → Tryd.pinned.checked.prog.wantsStandIn t = false := by
  obtain rfl : f = 9 := Option.some.inj ((show Tryd.prog.funcNamed "twinspan/twinspanlaw14.ClientEither" = some 9 by kernel_rfl).symm.trans hf) |>.symm
  obtain rfl : fn = Tryd.f9 := (Option.some.inj (Tryd.func9.symm.trans hfn)).symm
  refine ⟨by kernel_rfl, fun j t ht => ?_⟩
  have hall : Tryd.f9.params.toList.all (fun t => !Tryd.prog.wantsStandIn t) = true := by kernel_rfl
  have := List.all_eq_true.1 hall t (by simpa using Array.mem_of_getElem? ht)
  show Tryd.prog.wantsStandIn t = false
  simpa using this
theorem card : Rows.ClientEitherCardSaid :=
  Claim7.holds_tied_plain_at .later [] _ _ _ _ said (fun _ h => by cases h) (by kernel_rfl) (fun _ h => by cases h) clientEither_row_tie rfl ⟨rfl, rfl⟩ (by kernel_rfl) rfl plain (by kernel_rfl)
end Go.Proofs.YtkijoddconipoaaDoor.clientEither
