/- Law ClientHonest: headers of one chain never freeze a client, in whatever order they come, and it knows each. Conditions: none but the statement's own. -/
import Derived.Test.YtkijoddconipoaaDoorCards
import Derived.Test.YtkijoddconipoaaDoorTie
import Derived.SevenTiedAt
import Derived.Test.YtkijoddconipoaaDoorP1
import Derived.Test.YtkijoddconipoaaDoorP2
import Derived.Test.YtkijoddconipoaaDoorP3
import Derived.Test.YtkijoddconipoaaDoorP4
import Derived.Test.YtkijoddconipoaaDoorQ1
import Derived.Test.YtkijoddconipoaaDoorQ2
import Derived.Test.YtkijoddconipoaaDoorK1
import Derived.Test.YtkijoddconipoaaDoorQ3
import Derived.Test.YtkijoddconipoaaDoorQ5
import Derived.Test.YtkijoddconipoaaDoorR1
import Derived.Test.YtkijoddconipoaaDoorR2
import Derived.Test.YtkijoddconipoaaDoorR3
import Derived.Test.YtkijoddconipoaaDoorR4
import Derived.Test.YtkijoddconipoaaDoorR5
import Derived.Test.YtkijoddconipoaaDoorR7
import Derived.Test.YtkijoddconipoaaDoorR6
import Derived.Test.YtkijoddconipoaaDoorR8
namespace Go.Proofs.YtkijoddconipoaaDoor.clientHonest
open Go Go.ChangeShapes Go.WideShapes Go.ChangeAt Go.RowKit Tw Av
set_option maxRecDepth 100000
theorem params : Tryd.f11.params.toList = [3, 77, 77] := rfl
theorem laid_met (os : Os) : laidMet Tryd.prog Rows.clientHonestRow.laid ((laidWorld os).forCall (fun _ _ => 0) ⟨#[], #[((.int .i64 0) : Value), ((.slice none 0 0) : Value), ((.slice none 0 0) : Value)], []⟩).memory :=
  laidMet_of_run' 8 (by kernel_rfl) (by kernel_rfl)
theorem reads (os : Os) {H : Type} (enc : TypeId × Value → H) : ∃ places, DataW.whole enc Tryd.prog ((laidWorld os).forCall (fun _ _ => 0) ⟨#[], #[((.int .i64 0) : Value), ((.slice none 0 0) : Value), ((.slice none 0 0) : Value)], []⟩).memory Tryd.f11.params.toList Rows.clientHonestSpec.vars false (#[((.int .i64 0) : Value), ((.slice none 0 0) : Value), ((.slice none 0 0) : Value)] : Array Value).toList 8 = some ([(.lit (.int .i64 0)), .nil, .nil], [], places) :=
  ⟨[], by kernel_rfl⟩
theorem lifted (os : Os) (started : os.Started) (H : Type) (enc : TypeId × Value → H) (F : Stop.Interp) :
    ReturnsInHanded {} Tryd.checked os 11 .any ((OpenSpec.ofChange Rows.clientHonestSpec).preRow enc Tryd.prog Tryd.f11 Rows.clientHonestRow.domain false Rows.clientHonestRow.laid) (((OpenSpec.ofChange Rows.clientHonestSpec).at F).post enc Tryd.prog Tryd.f11 false true false false) := by
  obtain ⟨places, hx⟩ := reads os enc
  refine returnsInHanded_of_row (C := Tryd.checked) (s := OpenSpec.ofChange Rows.clientHonestSpec) own started (by kernel_rfl) Tryd.func11
    (witness_row_at (enc := enc) (C := Tryd.checked) false (laidWorld os) #[((.int .i64 0) : Value), ((.slice none 0 0) : Value), ((.slice none 0 0) : Value)] rfl (by kernel_rfl) (by kernel_rfl) (by kernel_rfl)
      (OpenSpec.preRow_of_cond 8 hx (by kernel_rfl) (fun k hk => by cases hk) (by kernel_rfl) (laid_met os))) ?_
  intro W base args ds gs before hval hW _ _ _ hL _ _
  exact law_calls (tb := 4) rfl (by kernel_rfl) rfl laidOut (by kernel_rfl) (rdA_cons (rd_i64 (P := Tryd.prog) (t := 3) (by kernel_rfl)) (rdA_cons (rd_slice (P := Tryd.prog) (t := 77) (rd_i64 (P := Tryd.prog) (t := 3) (by kernel_rfl)) (by kernel_rfl) (k := 1) (by kernel_rfl) (by kernel_rfl)) (rdA_cons (rd_slice (P := Tryd.prog) (t := 77) (rd_i64 (P := Tryd.prog) (t := 3) (by kernel_rfl)) (by kernel_rfl) (k := 1) (by kernel_rfl) (by kernel_rfl)) (rdA_nil)))) (fun ds h => by
    match ds, h with
    | [d0, d1, d2], _ => rfl) (fun z hz => by
      obtain ⟨n, st, od, _⟩ := z
      exact (fnClientHonest (hx := (⟨rfl⟩ : Ints (st.map fun n => int n) st)) (hy := (⟨rfl⟩ : Ints (od.map fun n => int n) od))).spec trivial) (glob_of hL) hval hW
theorem jf0 : (Rows.clientHonestRow.wf (OpenSpec.ofChange (OpenSpec.ofChange Rows.clientHonestSpec).bare)) = true := by kernel_rfl
theorem jf3 : (Tryd.f11.params.all (Tryd.pinned.checked.prog.readableRec ·)) = true := by kernel_rfl
theorem jf4 : (namedTie Tryd.pinned.checked.prog Rows.clientHonestRow.named (OpenSpec.ofChange Rows.clientHonestSpec).bare.vars) = true := by kernel_rfl
theorem jf5 : ((Rows.clientHonestRow.stops == [])) = true := by kernel_rfl
theorem jf7 : ((Rows.clientHonestRow.knobs == [])) = true := by kernel_rfl
theorem jf9 : ((Rows.clientHonestRow.inPlace == Tryd.pinned.checked.prog.inPlace 11)) = true := by kernel_rfl
theorem jf10 : ((Rows.clientHonestRow.unfollowed == Tryd.pinned.checked.prog.unfollowed 11)) = true := by kernel_rfl
theorem jf11 : ((Rows.clientHonestRow.recurses == Tryd.pinned.checked.prog.recurses 11)) = true := by kernel_rfl
theorem jf12 : ((Rows.clientHonestRow.named == Tryd.pinned.checked.prog.varsNamed 11)) = true := by kernel_rfl
theorem jf13 : ((Rows.clientHonestRow.maps == (Tryd.f11.params.toList ++ (OpenSpec.ofChange Rows.clientHonestSpec).bare.plain.varTypes Tryd.pinned.checked.prog).any (Tryd.pinned.checked.prog.mapsRec ·))) = true := by kernel_rfl
theorem jf14 : ((Rows.clientHonestRow.ifaces == (Tryd.f11.params.toList ++ (OpenSpec.ofChange Rows.clientHonestSpec).bare.plain.varTypes Tryd.pinned.checked.prog).any (Tryd.pinned.checked.prog.ifacesRec ·))) = true := by kernel_rfl
theorem jf15 : ((Rows.clientHonestRow.mapsOut == Tryd.pinned.checked.prog.mapsAmong Tryd.f11.resultTypes.toList)) = true := by kernel_rfl
theorem jf16 : ((Rows.clientHonestRow.loops == (Tryd.f11.params.toList ++ (OpenSpec.ofChange Rows.clientHonestSpec).bare.plain.varTypes Tryd.pinned.checked.prog).any (Tryd.pinned.checked.prog.loopsFrom ·))) = true := by kernel_rfl
theorem jf17 : ((Rows.clientHonestRow.wideKeys == (Tryd.f11.params.toList ++ (OpenSpec.ofChange Rows.clientHonestSpec).bare.plain.varTypes Tryd.pinned.checked.prog ++ Tryd.f11.resultTypes.toList).any (Tryd.pinned.checked.prog.wideKeysFrom ·))) = true := by kernel_rfl
theorem jf18 : ((OpenSpec.ofChange Rows.clientHonestSpec).bare.vars.all (Tryd.pinned.checked.prog.varReadable ·)) = true := by kernel_rfl
theorem jf19 : (Tryd.f11.resultTypes.all (fun t => Tryd.pinned.checked.prog.readableRec t && decide (t < Tryd.pinned.checked.prog.types.size))) = true := by kernel_rfl
theorem jf20 : ((Rows.clientHonestRow.ifacesOut == Tryd.f11.resultTypes.toList.any (Tryd.pinned.checked.prog.ifacesRec ·))) = true := by kernel_rfl
theorem jf21 : ((Rows.clientHonestRow.loopsOut == Tryd.f11.resultTypes.toList.any (Tryd.pinned.checked.prog.loopsFrom ·))) = true := by kernel_rfl
theorem jf22 : ((Rows.clientHonestRow.plainKeys == Tryd.pinned.checked.prog.plainKeys)) = true := by kernel_rfl
theorem jf23 : (Rows.clientHonestRow.shortTexts.isNone) = true := by kernel_rfl
theorem jf26 : ((Rows.clientHonestRow.lifted == Tryd.pinned.checked.prog.liftsFinal)) = true := by kernel_rfl
theorem jf27 : ((Tryd.pinned.checked.prog.make == some Rows.clientHonestRow.make)) = true := by kernel_rfl
theorem jf28 : ((Rows.clientHonestRow.kinds == (if Rows.clientHonestRow.domain.isEmpty then [] else Tryd.f11.params.toList.map fun t => match Tryd.pinned.checked.prog.underlying t with | some (.int k) => some k | _ => none))) = true := by kernel_rfl
theorem jf29 : ((Rows.clientHonestRow.pinned == Rows.clientHonestRow.pinnedBy)) = true := by kernel_rfl
theorem jf30 : ((Rows.clientHonestRow.veiled == (Tryd.f11.params.toList ++ (OpenSpec.ofChange Rows.clientHonestSpec).bare.plain.varTypes Tryd.pinned.checked.prog ++ Tryd.f11.resultTypes.toList).any (Tryd.pinned.checked.prog.veiledRec ·))) = true := by kernel_rfl
theorem jf31 : (Rows.clientHonestRow.veiledFits Tryd.pinned.checked.prog Tryd.f11.params.toList (Tryd.f11.params.toList ++ (OpenSpec.ofChange Rows.clientHonestSpec).bare.plain.varTypes Tryd.pinned.checked.prog ++ Tryd.f11.resultTypes.toList)) = true := by kernel_rfl
theorem closed : joinedFacts Tryd.pinned.checked.prog 11 Tryd.f11 (OpenSpec.ofChange Rows.clientHonestSpec).bare Rows.clientHonestRow = true := by
  unfold joinedFacts
  exact (andI (andI (andI (andI (andI (andI (andI (andI (andI (andI (andI (andI (andI (andI (andI (andI (andI (andI (andI (andI (andI (andI (andI (andI (andI (andI (andI (andI (andI (andI (andI jf0 laidOut) cl_rowed) jf3) jf4) jf5) cl_stops) jf7) cl_knobs) jf9) jf10) jf11) jf12) jf13) jf14) jf15) jf16) jf17) jf18) jf19) jf20) jf21) jf22) jf23) cl_heard) cl_enter) jf26) jf27) jf28) jf29) jf30) jf31)
theorem said : Rows.ClientHonestSaid :=
  OpenClaim.holds_of_cond 11 Tryd.f11 rfl rfl rfl rfl rfl rfl rfl ⟨rfl, rfl, rfl, rfl, rfl⟩ rfl rfl rfl rfl rfl (by kernel_rfl) Tryd.func11 closed
    (of_decide_eq_true (by kernel_rfl)) (by unfold Func.isWrapper; first | (rw [if_pos (by decide +kernel)]; kernel_rfl) | (rw [if_neg (by decide +kernel)]; exact ⟨rfl, rfl⟩))
    (fun os started H enc _ F => by rw [OpenClaim.pre_eq_preRow]; exact lifted os started H enc F)
theorem plain (f : FuncId) (fn : Func) (hf : Tryd.pinned.checked.prog.funcNamed "twinspan/twinspanlaw14.ClientHonest" = some f) (hfn : Tryd.pinned.checked.prog.funcs[f]? = some fn) :
    false = Tryd.pinned.checked.prog.looks [] ∧ ∀ (j : Nat) t, fn.params[j]? = some t → Tryd.pinned.checked.prog.wantsStandIn t = false := by
  obtain rfl : f = 11 := Option.some.inj ((show Tryd.prog.funcNamed "twinspan/twinspanlaw14.ClientHonest" = some 11 by kernel_rfl).symm.trans hf) |>.symm
  obtain rfl : fn = Tryd.f11 := (Option.some.inj (Tryd.func11.symm.trans hfn)).symm
  refine ⟨by kernel_rfl, fun j t ht => ?_⟩
  have hall : Tryd.f11.params.toList.all (fun t => !Tryd.prog.wantsStandIn t) = true := by kernel_rfl
  have := List.all_eq_true.1 hall t (by simpa using Array.mem_of_getElem? ht)
  show Tryd.prog.wantsStandIn t = false
  simpa using this
theorem card : Rows.ClientHonestCardSaid :=
  Claim7.holds_tied_plain_at .later [] _ _ _ _ said (fun _ h => by cases h) (by kernel_rfl) (fun _ h => by cases h) clientHonest_row_tie rfl ⟨rfl, rfl⟩ (by kernel_rfl) rfl plain (by kernel_rfl)
end Go.Proofs.YtkijoddconipoaaDoor.clientHonest
