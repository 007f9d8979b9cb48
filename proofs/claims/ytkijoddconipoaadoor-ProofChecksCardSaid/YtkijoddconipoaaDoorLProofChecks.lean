/- Law ProofChecks: which proofs and gaps are right, is as the reference has it. Conditions: none but the statement's own. -/
import Derived.Test.YtkijoddconipoaaDoorCards
import Derived.Test.YtkijoddconipoaaDoorTie
import Derived.SevenTiedAt
import Derived.Test.YtkijoddconipoaaDoorP1
import Derived.Test.YtkijoddconipoaaDoorP2
import Derived.Test.YtkijoddconipoaaDoorP3
import Derived.Test.YtkijoddconipoaaDoorP4
import Derived.Test.YtkijoddconipoaaDoorQ1
import Derived.Test.YtkijoddconipoaaDoorQ2
import Derived.Test.YtkijoddconipoaaDoorK1
import Derived.Test.YtkijoddconipoaaDoorQ3
import Derived.Test.YtkijoddconipoaaDoorQ4
import Derived.Test.YtkijoddconipoaaDoorQ5
import Derived.Test.YtkijoddconipoaaDoorQ6
import Derived.Test.YtkijoddconipoaaDoorQ7
import Derived.Test.YtkijoddconipoaaDoorQ8
import Derived.Test.YtkijoddconipoaaDoorQ10
import Derived.Test.YtkijoddconipoaaDoorR10
import Derived.Test.YtkijoddconipoaaDoorR11
import Derived.Test.YtkijoddconipoaaDoorR12
import Derived.Test.YtkijoddconipoaaDoorR13
import Derived.Test.YtkijoddconipoaaDoorR14
import Derived.Test.YtkijoddconipoaaDoorR15
import Derived.Test.YtkijoddconipoaaDoorR16
namespace Go.Proofs.YtkijoddconipoaaDoor.proofChecks
open Go Go.ChangeShapes Go.WideShapes Go.ChangeAt Go.RowKit Tw Av
set_option maxRecDepth 100000
theorem params : Tryd.f15.params.toList = [22, 29, 92] := rfl
theorem laid_met (os : Os) : laidMet Tryd.prog Rows.proofChecksRow.laid ((laidWorld os).forCall (fun _ _ => 0) ⟨#[], #[((.slice none 0 0) : Value), ((.agg #[(.string ⟨#[]⟩), (.string ⟨#[]⟩)]) : Value), ((.agg #[(.string ⟨#[]⟩), (.bool false), (.bool false), (.int .i64 0), (.int .i64 0), (.int .u8 0), (.int .i64 0), (.int .i64 0), (.int .u8 0), (.int .i64 0)]) : Value)], []⟩).memory :=
  laidMet_of_run' 8 (by kernel_rfl) (by kernel_rfl)
theorem reads (os : Os) {H : Type} (enc : TypeId × Value → H) : ∃ places, DataW.whole enc Tryd.prog ((laidWorld os).forCall (fun _ _ => 0) ⟨#[], #[((.slice none 0 0) : Value), ((.agg #[(.string ⟨#[]⟩), (.string ⟨#[]⟩)]) : Value), ((.agg #[(.string ⟨#[]⟩), (.bool false), (.bool false), (.int .i64 0), (.int .i64 0), (.int .u8 0), (.int .i64 0), (.int .i64 0), (.int .u8 0), (.int .i64 0)]) : Value)], []⟩).memory Tryd.f15.params.toList Rows.proofChecksSpec.vars false (#[((.slice none 0 0) : Value), ((.agg #[(.string ⟨#[]⟩), (.string ⟨#[]⟩)]) : Value), ((.agg #[(.string ⟨#[]⟩), (.bool false), (.bool false), (.int .i64 0), (.int .i64 0), (.int .u8 0), (.int .i64 0), (.int .i64 0), (.int .u8 0), (.int .i64 0)]) : Value)] : Array Value).toList 8 = some ([.nil, (.agg [(.lit (.string [])), (.lit (.string []))]), (.agg [(.lit (.string [])), (.lit (.bool false)), (.lit (.bool false)), (.agg [(.lit (.int .i64 0)), (.lit (.int .i64 0)), (.lit (.int .u8 0))]), (.agg [(.lit (.int .i64 0)), (.lit (.int .i64 0)), (.lit (.int .u8 0))]), (.lit (.int .i64 0))])], [], places) :=
  ⟨[], by kernel_rfl⟩
theorem lifted (os : Os) (started : os.Started) (H : Type) (enc : TypeId × Value → H) (F : Stop.Interp) :
    ReturnsInHanded {} Tryd.checked os 15 .any ((OpenSpec.ofChange Rows.proofChecksSpec).preRow enc Tryd.prog Tryd.f15 Rows.proofChecksRow.domain false Rows.proofChecksRow.laid) (((OpenSpec.ofChange Rows.proofChecksSpec).at F).post enc Tryd.prog Tryd.f15 false true false false) := by
  obtain ⟨places, hx⟩ := reads os enc
  refine returnsInHanded_of_row (C := Tryd.checked) (s := OpenSpec.ofChange Rows.proofChecksSpec) own started (by kernel_rfl) Tryd.func15
    (witness_row_at (enc := enc) (C := Tryd.checked) false (laidWorld os) #[((.slice none 0 0) : Value), ((.agg #[(.string ⟨#[]⟩), (.string ⟨#[]⟩)]) : Value), ((.agg #[(.string ⟨#[]⟩), (.bool false), (.bool false), (.int .i64 0), (.int .i64 0), (.int .u8 0), (.int .i64 0), (.int .i64 0), (.int .u8 0), (.int .i64 0)]) : Value)] rfl (by kernel_rfl) (by kernel_rfl) (by kernel_rfl)
      (OpenSpec.preRow_of_cond 8 hx (by kernel_rfl) (fun k hk => by cases hk) (by kernel_rfl) (laid_met os))) ?_
  intro W base args ds gs before hval hW _ _ _ hL _ _
  exact law_calls (tb := 4) rfl (by kernel_rfl) rfl laidOut (by kernel_rfl) (rdA_cons (rd_slice (P := Tryd.prog) (t := 22) (rd_struct (P := Tryd.prog) (t := 29) (tot := 2) (l := [(9, 0), (9, 1)]) (by kernel_rfl) (by kernel_rfl) (rdS_cons (o := 0) (tot := 2) (rd_str (P := Tryd.prog) (t := 9) (by kernel_rfl)) (k := 1) (by kernel_rfl) (rdS_cons (o := 1) (tot := 2) (rd_str (P := Tryd.prog) (t := 9) (by kernel_rfl)) (k := 1) (by kernel_rfl) (rdS_nil (tot := 2))))) (by kernel_rfl) (k := 2) (by kernel_rfl) (by kernel_rfl)) (rdA_cons (rd_struct (P := Tryd.prog) (t := 29) (tot := 2) (l := [(9, 0), (9, 1)]) (by kernel_rfl) (by kernel_rfl) (rdS_cons (o := 0) (tot := 2) (rd_str (P := Tryd.prog) (t := 9) (by kernel_rfl)) (k := 1) (by kernel_rfl) (rdS_cons (o := 1) (tot := 2) (rd_str (P := Tryd.prog) (t := 9) (by kernel_rfl)) (k := 1) (by kernel_rfl) (rdS_nil (tot := 2))))) (rdA_cons (rd_struct (P := Tryd.prog) (t := 92) (tot := 10) (l := [(9, 0), (4, 1), (4, 2), (90, 3), (90, 6), (3, 9)]) (by kernel_rfl) (by kernel_rfl) (rdS_cons (o := 0) (tot := 10) (rd_str (P := Tryd.prog) (t := 9) (by kernel_rfl)) (k := 1) (by kernel_rfl) (rdS_cons (o := 1) (tot := 10) (rd_bool (P := Tryd.prog) (t := 4) (by kernel_rfl)) (k := 1) (by kernel_rfl) (rdS_cons (o := 2) (tot := 10) (rd_bool (P := Tryd.prog) (t := 4) (by kernel_rfl)) (k := 1) (by kernel_rfl) (rdS_cons (o := 3) (tot := 10) (rd_struct (P := Tryd.prog) (t := 90) (tot := 3) (l := [(3, 0), (3, 1), (5, 2)]) (by kernel_rfl) (by kernel_rfl) (rdS_cons (o := 0) (tot := 3) (rd_i64 (P := Tryd.prog) (t := 3) (by kernel_rfl)) (k := 1) (by kernel_rfl) (rdS_cons (o := 1) (tot := 3) (rd_i64 (P := Tryd.prog) (t := 3) (by kernel_rfl)) (k := 1) (by kernel_rfl) (rdS_cons (o := 2) (tot := 3) (rd_u8 (P := Tryd.prog) (t := 5) (by kernel_rfl)) (k := 1) (by kernel_rfl) (rdS_nil (tot := 3)))))) (k := 3) (by kernel_rfl) (rdS_cons (o := 6) (tot := 10) (rd_struct (P := Tryd.prog) (t := 90) (tot := 3) (l := [(3, 0), (3, 1), (5, 2)]) (by kernel_rfl) (by kernel_rfl) (rdS_cons (o := 0) (tot := 3) (rd_i64 (P := Tryd.prog) (t := 3) (by kernel_rfl)) (k := 1) (by kernel_rfl) (rdS_cons (o := 1) (tot := 3) (rd_i64 (P := Tryd.prog) (t := 3) (by kernel_rfl)) (k := 1) (by kernel_rfl) (rdS_cons (o := 2) (tot := 3) (rd_u8 (P := Tryd.prog) (t := 5) (by kernel_rfl)) (k := 1) (by kernel_rfl) (rdS_nil (tot := 3)))))) (k := 3) (by kernel_rfl) (rdS_cons (o := 9) (tot := 10) (rd_i64 (P := Tryd.prog) (t := 3) (by kernel_rfl)) (k := 1) (by kernel_rfl) (rdS_nil (tot := 10))))))))) (rdA_nil)))) (fun ds h => by
    match ds, h with
    | [d0, d1, d2], _ => rfl) (fun z hz => by
      obtain ⟨l, ⟨xk, xv, _⟩, ⟨key, own, oth, ⟨k1, a1, t1, _⟩, ⟨k2, a2, t2, _⟩, d, _⟩, _⟩ := z
      obtain ⟨_, _, ⟨_, _, _, ⟨c1, c2, _⟩, ⟨c3, c4, _⟩, _⟩, _⟩ := hz
      have hE : Ents (l.map (fun z => AV.agg 2 [str z.fst, str z.snd.fst])) (l.map fun z => (⟨z.fst, z.snd.fst⟩ : Ent)) := ⟨by rw [List.map_map]; rfl⟩
      exact (fnProofChecks (hx := hE)).spec ⟨⟨c1, c2⟩, c3, c4⟩) (glob_of hL) hval hW
theorem jf0 : (Rows.proofChecksRow.wf (OpenSpec.ofChange (OpenSpec.ofChange Rows.proofChecksSpec).bare)) = true := by kernel_rfl
theorem jf3 : (Tryd.f15.params.all (Tryd.pinned.checked.prog.readableRec ·)) = true := by kernel_rfl
theorem jf4 : (namedTie Tryd.pinned.checked.prog Rows.proofChecksRow.named (OpenSpec.ofChange Rows.proofChecksSpec).bare.vars) = true := by kernel_rfl
theorem jf5 : ((Rows.proofChecksRow.stops == [])) = true := by kernel_rfl
theorem jf7 : ((Rows.proofChecksRow.knobs == [])) = true := by kernel_rfl
theorem jf9 : ((Rows.proofChecksRow.inPlace == Tryd.pinned.checked.prog.inPlace 15)) = true := by kernel_rfl
theorem jf10 : ((Rows.proofChecksRow.unfollowed == Tryd.pinned.checked.prog.unfollowed 15)) = true := by kernel_rfl
theorem jf11 : ((Rows.proofChecksRow.recurses == Tryd.pinned.checked.prog.recurses 15)) = true := by kernel_rfl
theorem jf12 : ((Rows.proofChecksRow.named == Tryd.pinned.checked.prog.varsNamed 15)) = true := by kernel_rfl
theorem jf13 : ((Rows.proofChecksRow.maps == (Tryd.f15.params.toList ++ (OpenSpec.ofChange Rows.proofChecksSpec).bare.plain.varTypes Tryd.pinned.checked.prog).any (Tryd.pinned.checked.prog.mapsRec ·))) = true := by kernel_rfl
theorem jf14 : ((Rows.proofChecksRow.ifaces == (Tryd.f15.params.toList ++ (OpenSpec.ofChange Rows.proofChecksSpec).bare.plain.varTypes Tryd.pinned.checked.prog).any (Tryd.pinned.checked.prog.ifacesRec ·))) = true := by kernel_rfl
theorem jf15 : ((Rows.proofChecksRow.mapsOut == Tryd.pinned.checked.prog.mapsAmong Tryd.f15.resultTypes.toList)) = true := by kernel_rfl
theorem jf16 : ((Rows.proofChecksRow.loops == (Tryd.f15.params.toList ++ (OpenSpec.ofChange Rows.proofChecksSpec).bare.plain.varTypes Tryd.pinned.checked.prog).any (Tryd.pinned.checked.prog.loopsFrom ·))) = true := by kernel_rfl
theorem jf17 : ((Rows.proofChecksRow.wideKeys == (Tryd.f15.params.toList ++ (OpenSpec.ofChange Rows.proofChecksSpec).bare.plain.varTypes Tryd.pinned.checked.prog ++ Tryd.f15.resultTypes.toList).any (Tryd.pinned.checked.prog.wideKeysFrom ·))) = true := by kernel_rfl
theorem jf18 : ((OpenSpec.ofChange Rows.proofChecksSpec).bare.vars.all (Tryd.pinned.checked.prog.varReadable ·)) = true := by kernel_rfl
theorem jf19 : (Tryd.f15.resultTypes.all (fun t => Tryd.pinned.checked.prog.readableRec t && decide (t < Tryd.pinned.checked.prog.types.size))) = true := by kernel_rfl
theorem jf20 : ((Rows.proofChecksRow.ifacesOut == Tryd.f15.resultTypes.toList.any (Tryd.pinned.checked.prog.ifacesRec ·))) = true := by kernel_rfl
theorem jf21 : ((Rows.proofChecksRow.loopsOut == Tryd.f15.resultTypes.toList.any (Tryd.pinned.checked.prog.loopsFrom ·))) = true := by kernel_rfl
theorem jf22 : ((Rows.proofChecksRow.plainKeys == Tryd.pinned.checked.prog.plainKeys)) = true := by kernel_rfl
theorem jf23 : (Rows.proofChecksRow.shortTexts.isNone) = true := by kernel_rfl
theorem jf26 : ((Rows.proofChecksRow.lifted == Tryd.pinned.checked.prog.liftsFinal)) = true := by kernel_rfl
theorem jf27 : ((Tryd.pinned.checked.prog.make == some Rows.proofChecksRow.make)) = true := by kernel_rfl
theorem jf28 : ((Rows.proofChecksRow.kinds == (if Rows.proofChecksRow.domain.isEmpty then [] else Tryd.f15.params.toList.map fun t => match Tryd.pinned.checked.prog.underlying t with | some (.int k) => some k | _ => none))) = true := by kernel_rfl
theorem jf29 : ((Rows.proofChecksRow.pinned == Rows.proofChecksRow.pinnedBy)) = true := by kernel_rfl
theorem jf30 : ((Rows.proofChecksRow.veiled == (Tryd.f15.params.toList ++ (OpenSpec.ofChange Rows.proofChecksSpec).bare.plain.varTypes Tryd.pinned.checked.prog ++ Tryd.f15.resultTypes.toList).any (Tryd.pinned.checked.prog.veiledRec ·))) = true := by kernel_rfl
theorem jf31 : (Rows.proofChecksRow.veiledFits Tryd.pinned.checked.prog Tryd.f15.params.toList (Tryd.f15.params.toList ++ (OpenSpec.ofChange Rows.proofChecksSpec).bare.plain.varTypes Tryd.pinned.checked.prog ++ Tryd.f15.resultTypes.toList)) = true := by kernel_rfl
theorem closed : joinedFacts Tryd.pinned.checked.prog 15 Tryd.f15 (OpenSpec.ofChange Rows.proofChecksSpec).bare Rows.proofChecksRow = true := by
  unfold joinedFacts
  exact (andI (andI (andI (andI (andI (andI (andI (andI (andI (andI (andI (andI (andI (andI (andI (andI (andI (andI (andI (andI (andI (andI (andI (andI (andI (andI (andI (andI (andI (andI (andI jf0 laidOut) cl_rowed) jf3) jf4) jf5) cl_stops) jf7) cl_knobs) jf9) jf10) jf11) jf12) jf13) jf14) jf15) jf16) jf17) jf18) jf19) jf20) jf21) jf22) jf23) cl_heard) cl_enter) jf26) jf27) jf28) jf29) jf30) jf31)
theorem said : Rows.ProofChecksSaid :=
  OpenClaim.holds_of_cond 15 Tryd.f15 rfl rfl rfl rfl rfl rfl rfl ⟨rfl, rfl, rfl, rfl, rfl⟩ rfl rfl rfl rfl rfl (by kernel_rfl) Tryd.func15 closed
    (of_decide_eq_true (by kernel_rfl)) (by unfold Func.isWrapper; first | (rw [if_pos (by decide +kernel)]; kernel_rfl) | (rw [if_neg (by decide +kernel)]; exact ⟨rfl, rfl⟩))
    (fun os started H enc _ F => by rw [OpenClaim.pre_eq_preRow]; exact lifted os started H enc F)
theorem plain (f : FuncId) (fn : Func) (hf : Tryd.pinned.checked.prog.funcNamed "twinspan/twinspanlaw10.ProofChecks" = some f) (hfn : Tryd.pinned.checked.prog.funcs[f]? = some fn) :
    false = Tryd.pinned.checked.prog.looks [] ∧ ∀ (j : Nat) t, fn.params[j]? = some t → Tryd.pinned.checked.prog.wantsStandIn t = false := by
  obtain rfl : f = 15 := Option.some.inj ((show Tryd.prog.funcNamed "twinspan/twinspanlaw10.ProofChecks" = some 15 by kernel_rfl).symm.trans hf) |>.symm
  obtain rfl : fn = Tryd.f15 := (Option.some.inj (Tryd.func15.symm.trans hfn)).symm
  refine ⟨by kernel_rfl, fun j t ht => ?_⟩
  have hall : Tryd.f15.params.toList.all (fun t => !Tryd.prog.wantsStandIn t) = true := by kernel_rfl
  have := List.all_eq_true.1 hall t (by simpa using Array.mem_of_getElem? ht)
  show Tryd.prog.wantsStandIn t = false
  simpa using this
theorem card : Rows.ProofChecksCardSaid :=
  Claim7.holds_tied_plain_at .later [] _ _ _ _ said (fun _ h => by cases h) (by kernel_rfl) (fun _ h => by cases h) proofChecks_row_tie rfl ⟨rfl, rfl⟩ (by kernel_rfl) rfl plain (by kernel_rfl)
end Go.Proofs.YtkijoddconipoaaDoor.proofChecks
