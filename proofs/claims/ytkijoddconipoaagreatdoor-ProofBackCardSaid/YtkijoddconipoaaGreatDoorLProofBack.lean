/- Law ProofBack: proofs and gaps are read as they were written. Conditions: none but the statement's own. -/
import Derived.Test.YtkijoddconipoaaGreatDoorCards
import Derived.Test.YtkijoddconipoaaGreatDoorTie
import Derived.SevenTiedAt
import Derived.Test.YtkijoddconipoaaGreatDoorP1
import Derived.Test.YtkijoddconipoaaGreatDoorP2
import Derived.Test.YtkijoddconipoaaGreatDoorP3
import Derived.Test.YtkijoddconipoaaGreatDoorP4
import Derived.Test.YtkijoddconipoaaGreatDoorP5
import Derived.Test.YtkijoddconipoaaGreatDoorQ1
import Derived.Test.YtkijoddconipoaaGreatDoorQ2
import Derived.Test.YtkijoddconipoaaGreatDoorK1
import Derived.Test.YtkijoddconipoaaGreatDoorQ3
import Derived.Test.YtkijoddconipoaaGreatDoorQ4
import Derived.Test.YtkijoddconipoaaGreatDoorQ5
import Derived.Test.YtkijoddconipoaaGreatDoorQ13
import Derived.Test.YtkijoddconipoaaGreatDoorQ14
import Derived.Test.YtkijoddconipoaaGreatDoorQ6
import Derived.Test.YtkijoddconipoaaGreatDoorQ7
import Derived.Test.YtkijoddconipoaaGreatDoorQ8
import Derived.Test.YtkijoddconipoaaGreatDoorQ10
import Derived.Test.YtkijoddconipoaaGreatDoorR10
import Derived.Test.YtkijoddconipoaaGreatDoorR11
import Derived.Test.YtkijoddconipoaaGreatDoorR12
import Derived.Test.YtkijoddconipoaaGreatDoorR19
import Derived.Test.YtkijoddconipoaaGreatDoorR13
import Derived.Test.YtkijoddconipoaaGreatDoorR14
import Derived.Test.YtkijoddconipoaaGreatDoorR15
import Derived.Test.YtkijoddconipoaaGreatDoorR16
import Derived.Test.YtkijoddconipoaaGreatDoorR20
import Derived.Test.YtkijoddconipoaaGreatDoorR21
namespace Go.Proofs.YtkijoddconipoaaGreatDoor.proofBack
open Go Go.ChangeShapes Go.WideShapes Go.ChangeAt Go.RowKit Tw Av
set_option maxRecDepth 100000
theorem params : Tryz.f5.params.toList = [44, 9] := rfl
theorem laid_met (os : Os) : laidMet Tryz.prog Rows.proofBackRow.laid ((laidWorld os).forCall (fun _ _ => 0) ⟨#[], #[((.slice none 0 0) : Value), ((.string ⟨#[]⟩) : Value)], []⟩).memory :=
  laidMet_of_run' 8 (by kernel_rfl) (by kernel_rfl)
theorem reads (os : Os) {H : Type} (enc : TypeId × Value → H) : ∃ places, DataW.whole enc Tryz.prog ((laidWorld os).forCall (fun _ _ => 0) ⟨#[], #[((.slice none 0 0) : Value), ((.string ⟨#[]⟩) : Value)], []⟩).memory Tryz.f5.params.toList Rows.proofBackSpec.vars false (#[((.slice none 0 0) : Value), ((.string ⟨#[]⟩) : Value)] : Array Value).toList 8 = some ([.nil, (.lit (.string []))], [], places) :=
  ⟨[], by kernel_rfl⟩
theorem lifted (os : Os) (started : os.Started) (H : Type) (enc : TypeId × Value → H) (F : Stop.Interp) :
    ReturnsInHanded {} Tryz.checked os 5 .any ((OpenSpec.ofChange Rows.proofBackSpec).preRow enc Tryz.prog Tryz.f5 Rows.proofBackRow.domain false Rows.proofBackRow.laid) (((OpenSpec.ofChange Rows.proofBackSpec).at F).post enc Tryz.prog Tryz.f5 false true false false) := by
  obtain ⟨places, hx⟩ := reads os enc
  refine returnsInHanded_of_row (C := Tryz.checked) (s := OpenSpec.ofChange Rows.proofBackSpec) own started (by kernel_rfl) Tryz.func5
    (witness_row_at (enc := enc) (C := Tryz.checked) false (laidWorld os) #[((.slice none 0 0) : Value), ((.string ⟨#[]⟩) : Value)] rfl (by kernel_rfl) (by kernel_rfl) (by kernel_rfl)
      (OpenSpec.preRow_of_cond 8 hx (by kernel_rfl) (fun k hk => by cases hk) (by kernel_rfl) (laid_met os))) ?_
  intro W base args ds gs before hval hW _ _ _ hL _ _
  exact law_calls (tb := 4) rfl (by kernel_rfl) rfl laidOut (by kernel_rfl) (rdA_cons (rd_slice (P := Tryz.prog) (t := 44) (rd_struct (P := Tryz.prog) (t := 104) (tot := 2) (l := [(9, 0), (9, 1)]) (by kernel_rfl) (by kernel_rfl) (rdS_cons (o := 0) (tot := 2) (rd_str (P := Tryz.prog) (t := 9) (by kernel_rfl)) (k := 1) (by kernel_rfl) (rdS_cons (o := 1) (tot := 2) (rd_str (P := Tryz.prog) (t := 9) (by kernel_rfl)) (k := 1) (by kernel_rfl) (rdS_nil (tot := 2))))) (by kernel_rfl) (k := 2) (by kernel_rfl) (by kernel_rfl)) (rdA_cons (rd_str (P := Tryz.prog) (t := 9) (by kernel_rfl)) (rdA_nil))) (fun ds h => by
    match ds, h with
    | [d0, d1], _ => rfl) (fun z hz => by
      obtain ⟨l, key, _⟩ := z
      have hE : Ents (l.map (fun z => AV.agg 2 [str z.fst, str z.snd.fst])) (l.map fun z => (⟨z.fst, z.snd.fst⟩ : Ent)) := ⟨by rw [List.map_map]; rfl⟩
      exact (fnProofBack (hx := hE)).spec trivial) (glob_of hL) hval hW
theorem jf0 : (Rows.proofBackRow.wf (OpenSpec.ofChange (OpenSpec.ofChange Rows.proofBackSpec).bare)) = true := by kernel_rfl
theorem jf3 : (Tryz.f5.params.all (Tryz.pinned.checked.prog.readableRec ·)) = true := by kernel_rfl
theorem jf4 : (namedTie Tryz.pinned.checked.prog Rows.proofBackRow.named (OpenSpec.ofChange Rows.proofBackSpec).bare.vars) = true := by kernel_rfl
theorem jf5 : ((Rows.proofBackRow.stops == [])) = true := by kernel_rfl
theorem jf7 : ((Rows.proofBackRow.knobs == [])) = true := by kernel_rfl
theorem jf9 : ((Rows.proofBackRow.inPlace == Tryz.pinned.checked.prog.inPlace 5)) = true := by kernel_rfl
theorem jf10 : ((Rows.proofBackRow.unfollowed == Tryz.pinned.checked.prog.unfollowed 5)) = true := by kernel_rfl
theorem jf11 : ((Rows.proofBackRow.recurses == Tryz.pinned.checked.prog.recurses 5)) = true := by kernel_rfl
theorem jf12 : ((Rows.proofBackRow.named == Tryz.pinned.checked.prog.varsNamed 5)) = true := by kernel_rfl
theorem jf13 : ((Rows.proofBackRow.maps == (Tryz.f5.params.toList ++ (OpenSpec.ofChange Rows.proofBackSpec).bare.plain.varTypes Tryz.pinned.checked.prog).any (Tryz.pinned.checked.prog.mapsRec ·))) = true := by kernel_rfl
theorem jf14 : ((Rows.proofBackRow.ifaces == (Tryz.f5.params.toList ++ (OpenSpec.ofChange Rows.proofBackSpec).bare.plain.varTypes Tryz.pinned.checked.prog).any (Tryz.pinned.checked.prog.ifacesRec ·))) = true := by kernel_rfl
theorem jf15 : ((Rows.proofBackRow.mapsOut == Tryz.pinned.checked.prog.mapsAmong Tryz.f5.resultTypes.toList)) = true := by kernel_rfl
theorem jf16 : ((Rows.proofBackRow.loops == (Tryz.f5.params.toList ++ (OpenSpec.ofChange Rows.proofBackSpec).bare.plain.varTypes Tryz.pinned.checked.prog).any (Tryz.pinned.checked.prog.loopsFrom ·))) = true := by kernel_rfl
theorem jf17 : ((Rows.proofBackRow.wideKeys == (Tryz.f5.params.toList ++ (OpenSpec.ofChange Rows.proofBackSpec).bare.plain.varTypes Tryz.pinned.checked.prog ++ Tryz.f5.resultTypes.toList).any (Tryz.pinned.checked.prog.wideKeysFrom ·))) = true := by kernel_rfl
theorem jf18 : ((OpenSpec.ofChange Rows.proofBackSpec).bare.vars.all (Tryz.pinned.checked.prog.varReadable ·)) = true := by kernel_rfl
theorem jf19 : (Tryz.f5.resultTypes.all (fun t => Tryz.pinned.checked.prog.readableRec t && decide (t < Tryz.pinned.checked.prog.types.size))) = true := by kernel_rfl
theorem jf20 : ((Rows.proofBackRow.ifacesOut == Tryz.f5.resultTypes.toList.any (Tryz.pinned.checked.prog.ifacesRec ·))) = true := by kernel_rfl
theorem jf21 : ((Rows.proofBackRow.loopsOut == Tryz.f5.resultTypes.toList.any (Tryz.pinned.checked.prog.loopsFrom ·))) = true := by kernel_rfl
theorem jf22 : ((Rows.proofBackRow.plainKeys == Tryz.pinned.checked.prog.plainKeys)) = true := by kernel_rfl
theorem jf23 : (Rows.proofBackRow.shortTexts.isNone) = true := by kernel_rfl
theorem jf26 : ((Rows.proofBackRow.lifted == Tryz.pinned.checked.prog.liftsFinal)) = true := by kernel_rfl
theorem jf27 : ((Tryz.pinned.checked.prog.make == some Rows.proofBackRow.make)) = true := by kernel_rfl
theorem jf28 : ((Rows.proofBackRow.kinds == (if Rows.proofBackRow.domain.isEmpty then [] else Tryz.f5.params.toList.map fun t => match Tryz.pinned.checked.prog.underlying t with | some (.int k) => some k | _ => none))) = true := by kernel_rfl
theorem jf29 : ((Rows.proofBackRow.pinned == Rows.proofBackRow.pinnedBy)) = true := by kernel_rfl
theorem jf30 : ((Rows.proofBackRow.veiled == (Tryz.f5.params.toList ++ (OpenSpec.ofChange Rows.proofBackSpec).bare.plain.varTypes Tryz.pinned.checked.prog ++ Tryz.f5.resultTypes.toList).any (Tryz.pinned.checked.prog.veiledRec ·))) = true := by kernel_rfl
theorem jf31 : (Rows.proofBackRow.veiledFits Tryz.pinned.checked.prog Tryz.f5.params.toList (Tryz.f5.params.toList ++ (OpenSpec.ofChange Rows.proofBackSpec).bare.plain.varTypes Tryz.pinned.checked.prog ++ Tryz.f5.resultTypes.toList)) = true := by kernel_rfl
theorem closed : joinedFacts Tryz.pinned.checked.prog 5 Tryz.f5 (OpenSpec.ofChange Rows.proofBackSpec).bare Rows.proofBackRow = true := by
  unfold joinedFacts
  exact (andI (andI (andI (andI (andI (andI (andI (andI (andI (andI (andI (andI (andI (andI (andI (andI (andI (andI (andI (andI (andI (andI (andI (andI (andI (andI (andI (andI (andI (andI (andI jf0 laidOut) cl_rowed) jf3) jf4) jf5) cl_stops) jf7) cl_knobs) jf9) jf10) jf11) jf12) jf13) jf14) jf15) jf16) jf17) jf18) jf19) jf20) jf21) jf22) jf23) cl_heard) cl_enter) jf26) jf27) jf28) jf29) jf30) jf31)
theorem said : Rows.ProofBackSaid :=
  OpenClaim.holds_of_cond 5 Tryz.f5 rfl rfl rfl rfl rfl rfl rfl ⟨rfl, rfl, rfl, rfl, rfl⟩ rfl rfl rfl rfl rfl (by kernel_rfl) Tryz.func5 closed
    (of_decide_eq_true (by kernel_rfl)) (by unfold Func.isWrapper; first | (rw [if_pos (by decide +kernel)]; kernel_rfl) | (rw [if_neg (by decide +kernel)]; exact ⟨rfl, rfl⟩))
    (fun os started H enc _ F => by rw [OpenClaim.pre_eq_preRow]; exact lifted os started H enc F)
theorem plain (f : FuncId) (fn : Func) (hf : Tryz.pinned.checked.prog.funcNamed "twinspan/twinspanlaw10.ProofBack" = some f) (hfn : Tryz.pinned.checked.prog.funcs[f]? = some fn) :
    false = Tryz.pinned.checked.prog.looks [] ∧ ∀ (j : Nat) t, fn.params[j]? = some t → Tryz.pinned.checked.prog.wantsStandIn t = false := by
  obtain rfl : f = 5 := Option.some.inj ((show Tryz.prog.funcNamed "twinspan/twinspanlaw10.ProofBack" = some 5 by kernel_rfl).symm.trans hf) |>.symm
  obtain rfl : fn = Tryz.f5 := (Option.some.inj (Tryz.func5.symm.trans hfn)).symm
  refine ⟨by kernel_rfl, fun j t ht => ?_⟩
  have hall : Tryz.f5.params.toList.all (fun t => !Tryz.prog.wantsStandIn t) = true := by kernel_rfl
  have := List.all_eq_true.1 hall t (by simpa using Array.mem_of_getElem? ht)
  show Tryz.prog.wantsStandIn t = false
  simpa using this
theorem card : Rows.ProofBackCardSaid :=
  Claim7.holds_tied_plain_at .later [] _ _ _ _ said (fun _ h => by cases h) (by kernel_rfl) (fun _ h => by cases h) proofBack_row_tie rfl ⟨rfl, rfl⟩ (by kernel_rfl) rfl plain (by kernel_rfl)
end Go.Proofs.YtkijoddconipoaaGreatDoor.proofBack
