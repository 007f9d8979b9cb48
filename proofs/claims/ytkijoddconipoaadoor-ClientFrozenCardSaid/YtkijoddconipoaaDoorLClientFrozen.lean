/- Law ClientFrozen: a client that is frozen, or too old, takes no header; another seal, or chain, is refused. Conditions: none but the statement's own. -/
import Derived.Test.YtkijoddconipoaaDoorCards
import Derived.Test.YtkijoddconipoaaDoorTie
import Derived.SevenTiedAt
import Derived.Test.YtkijoddconipoaaDoorP1
import Derived.Test.YtkijoddconipoaaDoorP2
import Derived.Test.YtkijoddconipoaaDoorP3
import Derived.Test.YtkijoddconipoaaDoorP4
import Derived.Test.YtkijoddconipoaaDoorQ1
import Derived.Test.YtkijoddconipoaaDoorQ2
import Derived.Test.YtkijoddconipoaaDoorK1
import Derived.Test.YtkijoddconipoaaDoorQ3
import Derived.Test.YtkijoddconipoaaDoorQ5
import Derived.Test.YtkijoddconipoaaDoorR1
import Derived.Test.YtkijoddconipoaaDoorR2
import Derived.Test.YtkijoddconipoaaDoorR3
import Derived.Test.YtkijoddconipoaaDoorR4
import Derived.Test.YtkijoddconipoaaDoorR5
import Derived.Test.YtkijoddconipoaaDoorR7
import Derived.Test.YtkijoddconipoaaDoorR6
import Derived.Test.YtkijoddconipoaaDoorR8
import Derived.Test.YtkijoddconipoaaDoorR9
namespace Go.Proofs.YtkijoddconipoaaDoor.clientFrozen
open Go Go.ChangeShapes Go.WideShapes Go.ChangeAt Go.RowKit Tw Av
set_option maxRecDepth 100000
theorem params : Tryd.f8.params.toList = [52, 3] := rfl
theorem laid_met (os : Os) : laidMet Tryd.prog Rows.clientFrozenRow.laid ((laidWorld os).forCall (fun _ _ => 0) ⟨#[], #[((.agg #[(.bool false), (.bool false), (.string ⟨#[]⟩), (.int .i64 0), (.int .i64 0), (.int .i64 0), (.int .u8 0)]) : Value), ((.int .i64 0) : Value)], []⟩).memory :=
  laidMet_of_run' 8 (by kernel_rfl) (by kernel_rfl)
theorem reads (os : Os) {H : Type} (enc : TypeId × Value → H) : ∃ places, DataW.whole enc Tryd.prog ((laidWorld os).forCall (fun _ _ => 0) ⟨#[], #[((.agg #[(.bool false), (.bool false), (.string ⟨#[]⟩), (.int .i64 0), (.int .i64 0), (.int .i64 0), (.int .u8 0)]) : Value), ((.int .i64 0) : Value)], []⟩).memory Tryd.f8.params.toList Rows.clientFrozenSpec.vars false (#[((.agg #[(.bool false), (.bool false), (.string ⟨#[]⟩), (.int .i64 0), (.int .i64 0), (.int .i64 0), (.int .u8 0)]) : Value), ((.int .i64 0) : Value)] : Array Value).toList 8 = some ([(.agg [(.lit (.bool false)), (.lit (.bool false)), (.lit (.string [])), (.lit (.int .i64 0)), (.lit (.int .i64 0)), (.lit (.int .i64 0)), (.lit (.int .u8 0))]), (.lit (.int .i64 0))], [], places) :=
  ⟨[], by kernel_rfl⟩
theorem lifted (os : Os) (started : os.Started) (H : Type) (enc : TypeId × Value → H) (F : Stop.Interp) :
    ReturnsInHanded {} Tryd.checked os 8 .any ((OpenSpec.ofChange Rows.clientFrozenSpec).preRow enc Tryd.prog Tryd.f8 Rows.clientFrozenRow.domain false Rows.clientFrozenRow.laid) (((OpenSpec.ofChange Rows.clientFrozenSpec).at F).post enc Tryd.prog Tryd.f8 false true false false) := by
  obtain ⟨places, hx⟩ := reads os enc
  refine returnsInHanded_of_row (C := Tryd.checked) (s := OpenSpec.ofChange Rows.clientFrozenSpec) own started (by kernel_rfl) Tryd.func8
    (witness_row_at (enc := enc) (C := Tryd.checked) false (laidWorld os) #[((.agg #[(.bool false), (.bool false), (.string ⟨#[]⟩), (.int .i64 0), (.int .i64 0), (.int .i64 0), (.int .u8 0)]) : Value), ((.int .i64 0) : Value)] rfl (by kernel_rfl) (by kernel_rfl) (by kernel_rfl)
      (OpenSpec.preRow_of_cond 8 hx (by kernel_rfl) (fun k hk => by cases hk) (by kernel_rfl) (laid_met os))) ?_
  intro W base args ds gs before hval hW _ _ _ hL _ _
  exact law_calls (tb := 4) rfl (by kernel_rfl) rfl laidOut (by kernel_rfl) (rdA_cons (rd_struct (P := Tryd.prog) (t := 52) (tot := 7) (l := [(4, 0), (4, 1), (9, 2), (3, 3), (3, 4), (3, 5), (5, 6)]) (by kernel_rfl) (by kernel_rfl) (rdS_cons (o := 0) (tot := 7) (rd_bool (P := Tryd.prog) (t := 4) (by kernel_rfl)) (k := 1) (by kernel_rfl) (rdS_cons (o := 1) (tot := 7) (rd_bool (P := Tryd.prog) (t := 4) (by kernel_rfl)) (k := 1) (by kernel_rfl) (rdS_cons (o := 2) (tot := 7) (rd_str (P := Tryd.prog) (t := 9) (by kernel_rfl)) (k := 1) (by kernel_rfl) (rdS_cons (o := 3) (tot := 7) (rd_i64 (P := Tryd.prog) (t := 3) (by kernel_rfl)) (k := 1) (by kernel_rfl) (rdS_cons (o := 4) (tot := 7) (rd_i64 (P := Tryd.prog) (t := 3) (by kernel_rfl)) (k := 1) (by kernel_rfl) (rdS_cons (o := 5) (tot := 7) (rd_i64 (P := Tryd.prog) (t := 3) (by kernel_rfl)) (k := 1) (by kernel_rfl) (rdS_cons (o := 6) (tot := 7) (rd_u8 (P := Tryd.prog) (t := 5) (by kernel_rfl)) (k := 1) (by kernel_rfl) (rdS_nil (tot := 7)))))))))) (rdA_cons (rd_i64 (P := Tryd.prog) (t := 3) (by kernel_rfl)) (rdA_nil))) (fun ds h => by
    match ds, h with
    | [d0, d1], _ => rfl) (fun z hz => by
      obtain ⟨⟨o, f, c, h, t, n, r, _⟩, now, _⟩ := z
      exact fnClientFrozen.spec trivial) (glob_of hL) hval hW
theorem jf0 : (Rows.clientFrozenRow.wf (OpenSpec.ofChange (OpenSpec.ofChange Rows.clientFrozenSpec).bare)) = true := by kernel_rfl
theorem jf3 : (Tryd.f8.params.all (Tryd.pinned.checked.prog.readableRec ·)) = true := by kernel_rfl
theorem jf4 : (namedTie Tryd.pinned.checked.prog Rows.clientFrozenRow.named (OpenSpec.ofChange Rows.clientFrozenSpec).bare.vars) = true := by kernel_rfl
theorem jf5 : ((Rows.clientFrozenRow.stops == [])) = true := by kernel_rfl
theorem jf7 : ((Rows.clientFrozenRow.knobs == [])) = true := by kernel_rfl
theorem jf9 : ((Rows.clientFrozenRow.inPlace == Tryd.pinned.checked.prog.inPlace 8)) = true := by kernel_rfl
theorem jf10 : ((Rows.clientFrozenRow.unfollowed == Tryd.pinned.checked.prog.unfollowed 8)) = true := by kernel_rfl
theorem jf11 : ((Rows.clientFrozenRow.recurses == Tryd.pinned.checked.prog.recurses 8)) = true := by kernel_rfl
theorem jf12 : ((Rows.clientFrozenRow.named == Tryd.pinned.checked.prog.varsNamed 8)) = true := by kernel_rfl
theorem jf13 : ((Rows.clientFrozenRow.maps == (Tryd.f8.params.toList ++ (OpenSpec.ofChange Rows.clientFrozenSpec).bare.plain.varTypes Tryd.pinned.checked.prog).any (Tryd.pinned.checked.prog.mapsRec ·))) = true := by kernel_rfl
theorem jf14 : ((Rows.clientFrozenRow.ifaces == (Tryd.f8.params.toList ++ (OpenSpec.ofChange Rows.clientFrozenSpec).bare.plain.varTypes Tryd.pinned.checked.prog).any (Tryd.pinned.checked.prog.ifacesRec ·))) = true := by kernel_rfl
theorem jf15 : ((Rows.clientFrozenRow.mapsOut == Tryd.pinned.checked.prog.mapsAmong Tryd.f8.resultTypes.toList)) = true := by kernel_rfl
theorem jf16 : ((Rows.clientFrozenRow.loops == (Tryd.f8.params.toList ++ (OpenSpec.ofChange Rows.clientFrozenSpec).bare.plain.varTypes Tryd.pinned.checked.prog).any (Tryd.pinned.checked.prog.loopsFrom ·))) = true := by kernel_rfl
theorem jf17 : ((Rows.clientFrozenRow.wideKeys == (Tryd.f8.params.toList ++ (OpenSpec.ofChange Rows.clientFrozenSpec).bare.plain.varTypes Tryd.pinned.checked.prog ++ Tryd.f8.resultTypes.toList).any (Tryd.pinned.checked.prog.wideKeysFrom ·))) = true := by kernel_rfl
theorem jf18 : ((OpenSpec.ofChange Rows.clientFrozenSpec).bare.vars.all (Tryd.pinned.checked.prog.varReadable ·)) = true := by kernel_rfl
theorem jf19 : (Tryd.f8.resultTypes.all (fun t => Tryd.pinned.checked.prog.readableRec t && decide (t < Tryd.pinned.checked.prog.types.size))) = true := by kernel_rfl
theorem jf20 : ((Rows.clientFrozenRow.ifacesOut == Tryd.f8.resultTypes.toList.any (Tryd.pinned.checked.prog.ifacesRec ·))) = true := by kernel_rfl
theorem jf21 : ((Rows.clientFrozenRow.loopsOut == Tryd.f8.resultTypes.toList.any (Tryd.pinned.checked.prog.loopsFrom ·))) = true := by kernel_rfl
theorem jf22 : ((Rows.clientFrozenRow.plainKeys == Tryd.pinned.checked.prog.plainKeys)) = true := by kernel_rfl
theorem jf23 : (Rows.clientFrozenRow.shortTexts.isNone) = true := by kernel_rfl
theorem jf26 : ((Rows.clientFrozenRow.lifted == Tryd.pinned.checked.prog.liftsFinal)) = true := by kernel_rfl
theorem jf27 : ((Tryd.pinned.checked.prog.make == some Rows.clientFrozenRow.make)) = true := by kernel_rfl
theorem jf28 : ((Rows.clientFrozenRow.kinds == (if Rows.clientFrozenRow.domain.isEmpty then [] else Tryd.f8.params.toList.map fun t => match Tryd.pinned.checked.prog.underlying t with | some (.int k) => some k | _ => none))) = true := by kernel_rfl
theorem jf29 : ((Rows.clientFrozenRow.pinned == Rows.clientFrozenRow.pinnedBy)) = true := by kernel_rfl
theorem jf30 : ((Rows.clientFrozenRow.veiled == (Tryd.f8.params.toList ++ (OpenSpec.ofChange Rows.clientFrozenSpec).bare.plain.varTypes Tryd.pinned.checked.prog ++ Tryd.f8.resultTypes.toList).any (Tryd.pinned.checked.prog.veiledRec ·))) = true := by kernel_rfl
theorem jf31 : (Rows.clientFrozenRow.veiledFits Tryd.pinned.checked.prog Tryd.f8.params.toList (Tryd.f8.params.toList ++ (OpenSpec.ofChange Rows.clientFrozenSpec).bare.plain.varTypes Tryd.pinned.checked.prog ++ Tryd.f8.resultTypes.toList)) = true := by kernel_rfl
theorem closed : joinedFacts Tryd.pinned.checked.prog 8 Tryd.f8 (OpenSpec.ofChange Rows.clientFrozenSpec).bare Rows.clientFrozenRow = true := by
  unfold joinedFacts
  exact (andI (andI (andI (andI (andI (andI (andI (andI (andI (andI (andI (andI (andI (andI (andI (andI (andI (andI (andI (andI (andI (andI (andI (andI (andI (andI (andI (andI (andI (andI (andI jf0 laidOut) cl_rowed) jf3) jf4) jf5) cl_stops) jf7) cl_knobs) jf9) jf10) jf11) jf12) jf13) jf14) jf15) jf16) jf17) jf18) jf19) jf20) jf21) jf22) jf23) cl_heard) cl_enter) jf26) jf27) jf28) jf29) jf30) jf31)
theorem said : Rows.ClientFrozenSaid :=
  OpenClaim.holds_of_cond 8 Tryd.f8 rfl rfl rfl rfl rfl rfl rfl ⟨rfl, rfl, rfl, rfl, rfl⟩ rfl rfl rfl rfl rfl (by kernel_rfl) Tryd.func8 closed
    (of_decide_eq_true (by kernel_rfl)) (by unfold Func.isWrapper; first | (rw [if_pos (by decide +kernel)]; kernel_rfl) | (rw [if_neg (by decide +kernel)]; exact ⟨rfl, rfl⟩))
    (fun os started H enc _ F => by rw [OpenClaim.pre_eq_preRow]; exact lifted os started H enc F)
theorem plain (f : FuncId) (fn : Func) (hf : Tryd.pinned.checked.prog.funcNamed "twinspan/twinspanlaw14.ClientFrozen" = some f) (hfn : Tryd.pinned.checked.prog.funcs[f]? = some fn) :
    false = Tryd.pinned.checked.prog.looks [] ∧ ∀ (j : Nat) t, fn.params[j]? = some t → Tryd.pinned.checked.prog.wantsStandIn t = false := by
  obtain rfl : f = 8 := Option.some.inj ((show Tryd.prog.funcNamed "twinspan/twinspanlaw14.ClientFrozen" = some 8 by kernel_rfl).symm.trans hf) |>.symm
  obtain rfl : fn = Tryd.f8 := (Option.some.inj (Tryd.func8.symm.trans hfn)).symm
  refine ⟨by kernel_rfl, fun j t ht => ?_⟩
  have hall : Tryd.f8.params.toList.all (fun t => !Tryd.prog.wantsStandIn t) = true := by kernel_rfl
  have := List.all_eq_true.1 hall t (by simpa using Array.mem_of_getElem? ht)
  show Tryd.prog.wantsStandIn t = false
  simpa using this
theorem card : Rows.ClientFrozenCardSaid :=
  Claim7.holds_tied_plain_at .later [] _ _ _ _ said (fun _ h => by cases h) (by kernel_rfl) (fun _ h => by cases h) clientFrozen_row_tie rfl ⟨rfl, rfl⟩ (by kernel_rfl) rfl plain (by kernel_rfl)
end Go.Proofs.YtkijoddconipoaaDoor.clientFrozen
