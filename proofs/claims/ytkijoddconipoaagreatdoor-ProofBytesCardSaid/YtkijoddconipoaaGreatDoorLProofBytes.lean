/- Law ProofBytes: proofs and gaps are written, and any bytes read, as the reference does. Conditions: none but the statement's own. -/
import Derived.Test.YtkijoddconipoaaGreatDoorCards
import Derived.Test.YtkijoddconipoaaGreatDoorTie
import Derived.SevenTiedAt
import Derived.Test.YtkijoddconipoaaGreatDoorP1
import Derived.Test.YtkijoddconipoaaGreatDoorP2
import Derived.Test.YtkijoddconipoaaGreatDoorP3
import Derived.Test.YtkijoddconipoaaGreatDoorP4
import Derived.Test.YtkijoddconipoaaGreatDoorP5
import Derived.Test.YtkijoddconipoaaGreatDoorQ1
import Derived.Test.YtkijoddconipoaaGreatDoorQ2
import Derived.Test.YtkijoddconipoaaGreatDoorK1
import Derived.Test.YtkijoddconipoaaGreatDoorQ3
import Derived.Test.YtkijoddconipoaaGreatDoorQ4
import Derived.Test.YtkijoddconipoaaGreatDoorQ5
import Derived.Test.YtkijoddconipoaaGreatDoorQ13
import Derived.Test.YtkijoddconipoaaGreatDoorQ14
import Derived.Test.YtkijoddconipoaaGreatDoorQ6
import Derived.Test.YtkijoddconipoaaGreatDoorQ7
import Derived.Test.YtkijoddconipoaaGreatDoorQ8
import Derived.Test.YtkijoddconipoaaGreatDoorQ10
import Derived.Test.YtkijoddconipoaaGreatDoorR10
import Derived.Test.YtkijoddconipoaaGreatDoorR11
import Derived.Test.YtkijoddconipoaaGreatDoorR12
import Derived.Test.YtkijoddconipoaaGreatDoorR19
import Derived.Test.YtkijoddconipoaaGreatDoorR13
import Derived.Test.YtkijoddconipoaaGreatDoorR14
import Derived.Test.YtkijoddconipoaaGreatDoorR15
import Derived.Test.YtkijoddconipoaaGreatDoorR16
import Derived.Test.YtkijoddconipoaaGreatDoorR20
namespace Go.Proofs.YtkijoddconipoaaGreatDoor.proofBytes
open Go Go.ChangeShapes Go.WideShapes Go.ChangeAt Go.RowKit Tw Av
set_option maxRecDepth 100000
theorem params : Tryz.f4.params.toList = [44, 48, 9] := rfl
theorem laid_met (os : Os) : laidMet Tryz.prog Rows.proofBytesRow.laid ((laidWorld os).forCall (fun _ _ => 0) ⟨#[], #[((.slice none 0 0) : Value), ((.agg #[(.string ⟨#[]⟩), (.bool false), (.bool false), (.int .i64 0), (.int .i64 0), (.int .u8 0), (.int .i64 0), (.int .i64 0), (.int .u8 0), (.int .i64 0)]) : Value), ((.string ⟨#[]⟩) : Value)], []⟩).memory :=
  laidMet_of_run' 8 (by kernel_rfl) (by kernel_rfl)
theorem reads (os : Os) {H : Type} (enc : TypeId × Value → H) : ∃ places, DataW.whole enc Tryz.prog ((laidWorld os).forCall (fun _ _ => 0) ⟨#[], #[((.slice none 0 0) : Value), ((.agg #[(.string ⟨#[]⟩), (.bool false), (.bool false), (.int .i64 0), (.int .i64 0), (.int .u8 0), (.int .i64 0), (.int .i64 0), (.int .u8 0), (.int .i64 0)]) : Value), ((.string ⟨#[]⟩) : Value)], []⟩).memory Tryz.f4.params.toList Rows.proofBytesSpec.vars false (#[((.slice none 0 0) : Value), ((.agg #[(.string ⟨#[]⟩), (.bool false), (.bool false), (.int .i64 0), (.int .i64 0), (.int .u8 0), (.int .i64 0), (.int .i64 0), (.int .u8 0), (.int .i64 0)]) : Value), ((.string ⟨#[]⟩) : Value)] : Array Value).toList 8 = some ([.nil, (.agg [(.lit (.string [])), (.lit (.bool false)), (.lit (.bool false)), (.agg [(.lit (.int .i64 0)), (.lit (.int .i64 0)), (.lit (.int .u8 0))]), (.agg [(.lit (.int .i64 0)), (.lit (.int .i64 0)), (.lit (.int .u8 0))]), (.lit (.int .i64 0))]), (.lit (.string []))], [], places) :=
  ⟨[], by kernel_rfl⟩
theorem lifted (os : Os) (started : os.Started) (H : Type) (enc : TypeId × Value → H) (F : Stop.Interp) :
    ReturnsInHanded {} Tryz.checked os 4 .any ((OpenSpec.ofChange Rows.proofBytesSpec).preRow enc Tryz.prog Tryz.f4 Rows.proofBytesRow.domain false Rows.proofBytesRow.laid) (((OpenSpec.ofChange Rows.proofBytesSpec).at F).post enc Tryz.prog Tryz.f4 false true false false) := by
  obtain ⟨places, hx⟩ := reads os enc
  refine returnsInHanded_of_row (C := Tryz.checked) (s := OpenSpec.ofChange Rows.proofBytesSpec) own started (by kernel_rfl) Tryz.func4
    (witness_row_at (enc := enc) (C := Tryz.checked) false (laidWorld os) #[((.slice none 0 0) : Value), ((.agg #[(.string ⟨#[]⟩), (.bool false), (.bool false), (.int .i64 0), (.int .i64 0), (.int .u8 0), (.int .i64 0), (.int .i64 0), (.int .u8 0), (.int .i64 0)]) : Value), ((.string ⟨#[]⟩) : Value)] rfl (by kernel_rfl) (by kernel_rfl) (by kernel_rfl)
      (OpenSpec.preRow_of_cond 8 hx (by kernel_rfl) (fun k hk => by cases hk) (by kernel_rfl) (laid_met os))) ?_
  intro W base args ds gs before hval hW _ _ _ hL _ _
  exact law_calls (tb := 4) rfl (by kernel_rfl) rfl laidOut (by kernel_rfl) (rdA_cons (rd_slice (P := Tryz.prog) (t := 44) (rd_struct (P := Tryz.prog) (t := 104) (tot := 2) (l := [(9, 0), (9, 1)]) (by kernel_rfl) (by kernel_rfl) (rdS_cons (o := 0) (tot := 2) (rd_str (P := Tryz.prog) (t := 9) (by kernel_rfl)) (k := 1) (by kernel_rfl) (rdS_cons (o := 1) (tot := 2) (rd_str (P := Tryz.prog) (t := 9) (by kernel_rfl)) (k := 1) (by kernel_rfl) (rdS_nil (tot := 2))))) (by kernel_rfl) (k := 2) (by kernel_rfl) (by kernel_rfl)) (rdA_cons (rd_struct (P := Tryz.prog) (t := 48) (tot := 10) (l := [(9, 0), (4, 1), (4, 2), (46, 3), (46, 6), (3, 9)]) (by kernel_rfl) (by kernel_rfl) (rdS_cons (o := 0) (tot := 10) (rd_str (P := Tryz.prog) (t := 9) (by kernel_rfl)) (k := 1) (by kernel_rfl) (rdS_cons (o := 1) (tot := 10) (rd_bool (P := Tryz.prog) (t := 4) (by kernel_rfl)) (k := 1) (by kernel_rfl) (rdS_cons (o := 2) (tot := 10) (rd_bool (P := Tryz.prog) (t := 4) (by kernel_rfl)) (k := 1) (by kernel_rfl) (rdS_cons (o := 3) (tot := 10) (rd_struct (P := Tryz.prog) (t := 46) (tot := 3) (l := [(3, 0), (3, 1), (5, 2)]) (by kernel_rfl) (by kernel_rfl) (rdS_cons (o := 0) (tot := 3) (rd_i64 (P := Tryz.prog) (t := 3) (by kernel_rfl)) (k := 1) (by kernel_rfl) (rdS_cons (o := 1) (tot := 3) (rd_i64 (P := Tryz.prog) (t := 3) (by kernel_rfl)) (k := 1) (by kernel_rfl) (rdS_cons (o := 2) (tot := 3) (rd_u8 (P := Tryz.prog) (t := 5) (by kernel_rfl)) (k := 1) (by kernel_rfl) (rdS_nil (tot := 3)))))) (k := 3) (by kernel_rfl) (rdS_cons (o := 6) (tot := 10) (rd_struct (P := Tryz.prog) (t := 46) (tot := 3) (l := [(3, 0), (3, 1), (5, 2)]) (by kernel_rfl) (by kernel_rfl) (rdS_cons (o := 0) (tot := 3) (rd_i64 (P := Tryz.prog) (t := 3) (by kernel_rfl)) (k := 1) (by kernel_rfl) (rdS_cons (o := 1) (tot := 3) (rd_i64 (P := Tryz.prog) (t := 3) (by kernel_rfl)) (k := 1) (by kernel_rfl) (rdS_cons (o := 2) (tot := 3) (rd_u8 (P := Tryz.prog) (t := 5) (by kernel_rfl)) (k := 1) (by kernel_rfl) (rdS_nil (tot := 3)))))) (k := 3) (by kernel_rfl) (rdS_cons (o := 9) (tot := 10) (rd_i64 (P := Tryz.prog) (t := 3) (by kernel_rfl)) (k := 1) (by kernel_rfl) (rdS_nil (tot := 10))))))))) (rdA_cons (rd_str (P := Tryz.prog) (t := 9) (by kernel_rfl)) (rdA_nil)))) (fun ds h => by
    match ds, h with
    | [d0, d1, d2], _ => rfl) (fun z hz => by
      obtain ⟨l, ⟨key, own, oth, ⟨k1, a1, t1, _⟩, ⟨k2, a2, t2, _⟩, d, _⟩, s, _⟩ := z
      obtain ⟨_, ⟨_, _, _, ⟨c1, c2, _⟩, ⟨c3, c4, _⟩, _⟩, _⟩ := hz
      have hE : Ents (l.map (fun z => AV.agg 2 [str z.fst, str z.snd.fst])) (l.map fun z => (⟨z.fst, z.snd.fst⟩ : Ent)) := ⟨by rw [List.map_map]; rfl⟩
      exact (fnProofBytes (hx := hE)).spec ⟨⟨c1, c2⟩, c3, c4⟩) (glob_of hL) hval hW
theorem jf0 : (Rows.proofBytesRow.wf (OpenSpec.ofChange (OpenSpec.ofChange Rows.proofBytesSpec).bare)) = true := by kernel_rfl
theorem jf3 : (Tryz.f4.params.all (Tryz.pinned.checked.prog.readableRec ·)) = true := by kernel_rfl
theorem jf4 : (namedTie Tryz.pinned.checked.prog Rows.proofBytesRow.named (OpenSpec.ofChange Rows.proofBytesSpec).bare.vars) = true := by kernel_rfl
theorem jf5 : ((Rows.proofBytesRow.stops == [])) = true := by kernel_rfl
theorem jf7 : ((Rows.proofBytesRow.knobs == [])) = true := by kernel_rfl
theorem jf9 : ((Rows.proofBytesRow.inPlace == Tryz.pinned.checked.prog.inPlace 4)) = true := by kernel_rfl
theorem jf10 : ((Rows.proofBytesRow.unfollowed == Tryz.pinned.checked.prog.unfollowed 4)) = true := by kernel_rfl
theorem jf11 : ((Rows.proofBytesRow.recurses == Tryz.pinned.checked.prog.recurses 4)) = true := by kernel_rfl
theorem jf12 : ((Rows.proofBytesRow.named == Tryz.pinned.checked.prog.varsNamed 4)) = true := by kernel_rfl
theorem jf13 : ((Rows.proofBytesRow.maps == (Tryz.f4.params.toList ++ (OpenSpec.ofChange Rows.proofBytesSpec).bare.plain.varTypes Tryz.pinned.checked.prog).any (Tryz.pinned.checked.prog.mapsRec ·))) = true := by kernel_rfl
theorem jf14 : ((Rows.proofBytesRow.ifaces == (Tryz.f4.params.toList ++ (OpenSpec.ofChange Rows.proofBytesSpec).bare.plain.varTypes Tryz.pinned.checked.prog).any (Tryz.pinned.checked.prog.ifacesRec ·))) = true := by kernel_rfl
theorem jf15 : ((Rows.proofBytesRow.mapsOut == Tryz.pinned.checked.prog.mapsAmong Tryz.f4.resultTypes.toList)) = true := by kernel_rfl
theorem jf16 : ((Rows.proofBytesRow.loops == (Tryz.f4.params.toList ++ (OpenSpec.ofChange Rows.proofBytesSpec).bare.plain.varTypes Tryz.pinned.checked.prog).any (Tryz.pinned.checked.prog.loopsFrom ·))) = true := by kernel_rfl
theorem jf17 : ((Rows.proofBytesRow.wideKeys == (Tryz.f4.params.toList ++ (OpenSpec.ofChange Rows.proofBytesSpec).bare.plain.varTypes Tryz.pinned.checked.prog ++ Tryz.f4.resultTypes.toList).any (Tryz.pinned.checked.prog.wideKeysFrom ·))) = true := by kernel_rfl
theorem jf18 : ((OpenSpec.ofChange Rows.proofBytesSpec).bare.vars.all (Tryz.pinned.checked.prog.varReadable ·)) = true := by kernel_rfl
theorem jf19 : (Tryz.f4.resultTypes.all (fun t => Tryz.pinned.checked.prog.readableRec t && decide (t < Tryz.pinned.checked.prog.types.size))) = true := by kernel_rfl
theorem jf20 : ((Rows.proofBytesRow.ifacesOut == Tryz.f4.resultTypes.toList.any (Tryz.pinned.checked.prog.ifacesRec ·))) = true := by kernel_rfl
theorem jf21 : ((Rows.proofBytesRow.loopsOut == Tryz.f4.resultTypes.toList.any (Tryz.pinned.checked.prog.loopsFrom ·))) = true := by kernel_rfl
theorem jf22 : ((Rows.proofBytesRow.plainKeys == Tryz.pinned.checked.prog.plainKeys)) = true := by kernel_rfl
theorem jf23 : (Rows.proofBytesRow.shortTexts.isNone) = true := by kernel_rfl
theorem jf26 : ((Rows.proofBytesRow.lifted == Tryz.pinned.checked.prog.liftsFinal)) = true := by kernel_rfl
theorem jf27 : ((Tryz.pinned.checked.prog.make == some Rows.proofBytesRow.make)) = true := by kernel_rfl
theorem jf28 : ((Rows.proofBytesRow.kinds == (if Rows.proofBytesRow.domain.isEmpty then [] else Tryz.f4.params.toList.map fun t => match Tryz.pinned.checked.prog.underlying t with | some (.int k) => some k | _ => none))) = true := by kernel_rfl
theorem jf29 : ((Rows.proofBytesRow.pinned == Rows.proofBytesRow.pinnedBy)) = true := by kernel_rfl
theorem jf30 : ((Rows.proofBytesRow.veiled == (Tryz.f4.params.toList ++ (OpenSpec.ofChange Rows.proofBytesSpec).bare.plain.varTypes Tryz.pinned.checked.prog ++ Tryz.f4.resultTypes.toList).any (Tryz.pinned.checked.prog.veiledRec ·))) = true := by kernel_rfl
theorem jf31 : (Rows.proofBytesRow.veiledFits Tryz.pinned.checked.prog Tryz.f4.params.toList (Tryz.f4.params.toList ++ (OpenSpec.ofChange Rows.proofBytesSpec).bare.plain.varTypes Tryz.pinned.checked.prog ++ Tryz.f4.resultTypes.toList)) = true := by kernel_rfl
theorem closed : joinedFacts Tryz.pinned.checked.prog 4 Tryz.f4 (OpenSpec.ofChange Rows.proofBytesSpec).bare Rows.proofBytesRow = true := by
  unfold joinedFacts
  exact (andI (andI (andI (andI (andI (andI (andI (andI (andI (andI (andI (andI (andI (andI (andI (andI (andI (andI (andI (andI (andI (andI (andI (andI (andI (andI (andI (andI (andI (andI (andI jf0 laidOut) cl_rowed) jf3) jf4) jf5) cl_stops) jf7) cl_knobs) jf9) jf10) jf11) jf12) jf13) jf14) jf15) jf16) jf17) jf18) jf19) jf20) jf21) jf22) jf23) cl_heard) cl_enter) jf26) jf27) jf28) jf29) jf30) jf31)
theorem said : Rows.ProofBytesSaid :=
  OpenClaim.holds_of_cond 4 Tryz.f4 rfl rfl rfl rfl rfl rfl rfl ⟨rfl, rfl, rfl, rfl, rfl⟩ rfl rfl rfl rfl rfl (by kernel_rfl) Tryz.func4 closed
    (of_decide_eq_true (by kernel_rfl)) (by unfold Func.isWrapper; first | (rw [if_pos (by decide +kernel)]; kernel_rfl) | (rw [if_neg (by decide +kernel)]; exact ⟨rfl, rfl⟩))
    (fun os started H enc _ F => by rw [OpenClaim.pre_eq_preRow]; exact lifted os started H enc F)
theorem plain (f : FuncId) (fn : Func) (hf : Tryz.pinned.checked.prog.funcNamed "twinspan/twinspanlaw10.ProofBytes" = some f) (hfn : Tryz.pinned.checked.prog.funcs[f]? = some fn) :
    false = Tryz.pinned.checked.prog.looks [] ∧ ∀ (j : Nat) t, fn.params[j]? = some t → Tryz.pinned.checked.prog.wantsStandIn t = false := by
  obtain rfl : f = 4 := Option.some.inj ((show Tryz.prog.funcNamed "twinspan/twinspanlaw10.ProofBytes" = some 4 by kernel_rfl).symm.trans hf) |>.symm
  obtain rfl : fn = Tryz.f4 := (Option.some.inj (Tryz.func4.symm.trans hfn)).symm
  refine ⟨by kernel_rfl, fun j t ht => ?_⟩
  have hall : Tryz.f4.params.toList.all (fun t => !Tryz.prog.wantsStandIn t) = true := by kernel_rfl
  have := List.all_eq_true.1 hall t (by simpa using Array.mem_of_getElem? ht)
  show Tryz.prog.wantsStandIn t = false
  simpa using this
theorem card : Rows.ProofBytesCardSaid :=
  Claim7.holds_tied_plain_at .later [] _ _ _ _ said (fun _ h => by cases h) (by kernel_rfl) (fun _ h => by cases h) proofBytes_row_tie rfl ⟨rfl, rfl⟩ (by kernel_rfl) rfl plain (by kernel_rfl)
end Go.Proofs.YtkijoddconipoaaGreatDoor.proofBytes
