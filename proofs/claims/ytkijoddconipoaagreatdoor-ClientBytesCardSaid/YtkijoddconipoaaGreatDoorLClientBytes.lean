/- Law ClientBytes: clients are written, and any bytes read, as the reference does. Conditions: none but the statement's own. -/
import Derived.Test.YtkijoddconipoaaGreatDoorCards
import Derived.Test.YtkijoddconipoaaGreatDoorTie
import Derived.SevenTiedAt
import Derived.Test.YtkijoddconipoaaGreatDoorP1
import Derived.Test.YtkijoddconipoaaGreatDoorP2
import Derived.Test.YtkijoddconipoaaGreatDoorP3
import Derived.Test.YtkijoddconipoaaGreatDoorP4
import Derived.Test.YtkijoddconipoaaGreatDoorP5
import Derived.Test.YtkijoddconipoaaGreatDoorQ1
import Derived.Test.YtkijoddconipoaaGreatDoorQ2
import Derived.Test.YtkijoddconipoaaGreatDoorK1
import Derived.Test.YtkijoddconipoaaGreatDoorQ3
import Derived.Test.YtkijoddconipoaaGreatDoorQ5
import Derived.Test.YtkijoddconipoaaGreatDoorQ13
import Derived.Test.YtkijoddconipoaaGreatDoorQ14
import Derived.Test.YtkijoddconipoaaGreatDoorR1
import Derived.Test.YtkijoddconipoaaGreatDoorR2
import Derived.Test.YtkijoddconipoaaGreatDoorR3
import Derived.Test.YtkijoddconipoaaGreatDoorR17
import Derived.Test.YtkijoddconipoaaGreatDoorR4
import Derived.Test.YtkijoddconipoaaGreatDoorR5
import Derived.Test.YtkijoddconipoaaGreatDoorR18
namespace Go.Proofs.YtkijoddconipoaaGreatDoor.clientBytes
open Go Go.ChangeShapes Go.WideShapes Go.ChangeAt Go.RowKit Tw Av
set_option maxRecDepth 100000
theorem params : Tryz.f3.params.toList = [23, 24, 9] := rfl
theorem laid_met (os : Os) : laidMet Tryz.prog Rows.clientBytesRow.laid ((laidWorld os).forCall (fun _ _ => 0) ⟨#[], #[((.agg #[(.bool false), (.bool false), (.string ⟨#[]⟩), (.int .i64 0), (.int .i64 0), (.int .i64 0), (.int .u8 0)]) : Value), ((.slice none 0 0) : Value), ((.string ⟨#[]⟩) : Value)], []⟩).memory :=
  laidMet_of_run' 8 (by kernel_rfl) (by kernel_rfl)
theorem reads (os : Os) {H : Type} (enc : TypeId × Value → H) : ∃ places, DataW.whole enc Tryz.prog ((laidWorld os).forCall (fun _ _ => 0) ⟨#[], #[((.agg #[(.bool false), (.bool false), (.string ⟨#[]⟩), (.int .i64 0), (.int .i64 0), (.int .i64 0), (.int .u8 0)]) : Value), ((.slice none 0 0) : Value), ((.string ⟨#[]⟩) : Value)], []⟩).memory Tryz.f3.params.toList Rows.clientBytesSpec.vars false (#[((.agg #[(.bool false), (.bool false), (.string ⟨#[]⟩), (.int .i64 0), (.int .i64 0), (.int .i64 0), (.int .u8 0)]) : Value), ((.slice none 0 0) : Value), ((.string ⟨#[]⟩) : Value)] : Array Value).toList 8 = some ([(.agg [(.lit (.bool false)), (.lit (.bool false)), (.lit (.string [])), (.lit (.int .i64 0)), (.lit (.int .i64 0)), (.lit (.int .i64 0)), (.lit (.int .u8 0))]), .nil, (.lit (.string []))], [], places) :=
  ⟨[], by kernel_rfl⟩
theorem lifted (os : Os) (started : os.Started) (H : Type) (enc : TypeId × Value → H) (F : Stop.Interp) :
    ReturnsInHanded {} Tryz.checked os 3 .any ((OpenSpec.ofChange Rows.clientBytesSpec).preRow enc Tryz.prog Tryz.f3 Rows.clientBytesRow.domain false Rows.clientBytesRow.laid) (((OpenSpec.ofChange Rows.clientBytesSpec).at F).post enc Tryz.prog Tryz.f3 false true false false) := by
  obtain ⟨places, hx⟩ := reads os enc
  refine returnsInHanded_of_row (C := Tryz.checked) (s := OpenSpec.ofChange Rows.clientBytesSpec) own started (by kernel_rfl) Tryz.func3
    (witness_row_at (enc := enc) (C := Tryz.checked) false (laidWorld os) #[((.agg #[(.bool false), (.bool false), (.string ⟨#[]⟩), (.int .i64 0), (.int .i64 0), (.int .i64 0), (.int .u8 0)]) : Value), ((.slice none 0 0) : Value), ((.string ⟨#[]⟩) : Value)] rfl (by kernel_rfl) (by kernel_rfl) (by kernel_rfl)
      (OpenSpec.preRow_of_cond 8 hx (by kernel_rfl) (fun k hk => by cases hk) (by kernel_rfl) (laid_met os))) ?_
  intro W base args ds gs before hval hW _ _ _ hL _ _
  exact law_calls (tb := 4) rfl (by kernel_rfl) rfl laidOut (by kernel_rfl) (rdA_cons (rd_struct (P := Tryz.prog) (t := 23) (tot := 7) (l := [(4, 0), (4, 1), (9, 2), (3, 3), (3, 4), (3, 5), (5, 6)]) (by kernel_rfl) (by kernel_rfl) (rdS_cons (o := 0) (tot := 7) (rd_bool (P := Tryz.prog) (t := 4) (by kernel_rfl)) (k := 1) (by kernel_rfl) (rdS_cons (o := 1) (tot := 7) (rd_bool (P := Tryz.prog) (t := 4) (by kernel_rfl)) (k := 1) (by kernel_rfl) (rdS_cons (o := 2) (tot := 7) (rd_str (P := Tryz.prog) (t := 9) (by kernel_rfl)) (k := 1) (by kernel_rfl) (rdS_cons (o := 3) (tot := 7) (rd_i64 (P := Tryz.prog) (t := 3) (by kernel_rfl)) (k := 1) (by kernel_rfl) (rdS_cons (o := 4) (tot := 7) (rd_i64 (P := Tryz.prog) (t := 3) (by kernel_rfl)) (k := 1) (by kernel_rfl) (rdS_cons (o := 5) (tot := 7) (rd_i64 (P := Tryz.prog) (t := 3) (by kernel_rfl)) (k := 1) (by kernel_rfl) (rdS_cons (o := 6) (tot := 7) (rd_u8 (P := Tryz.prog) (t := 5) (by kernel_rfl)) (k := 1) (by kernel_rfl) (rdS_nil (tot := 7)))))))))) (rdA_cons (rd_slice (P := Tryz.prog) (t := 24) (rd_struct (P := Tryz.prog) (t := 23) (tot := 7) (l := [(4, 0), (4, 1), (9, 2), (3, 3), (3, 4), (3, 5), (5, 6)]) (by kernel_rfl) (by kernel_rfl) (rdS_cons (o := 0) (tot := 7) (rd_bool (P := Tryz.prog) (t := 4) (by kernel_rfl)) (k := 1) (by kernel_rfl) (rdS_cons (o := 1) (tot := 7) (rd_bool (P := Tryz.prog) (t := 4) (by kernel_rfl)) (k := 1) (by kernel_rfl) (rdS_cons (o := 2) (tot := 7) (rd_str (P := Tryz.prog) (t := 9) (by kernel_rfl)) (k := 1) (by kernel_rfl) (rdS_cons (o := 3) (tot := 7) (rd_i64 (P := Tryz.prog) (t := 3) (by kernel_rfl)) (k := 1) (by kernel_rfl) (rdS_cons (o := 4) (tot := 7) (rd_i64 (P := Tryz.prog) (t := 3) (by kernel_rfl)) (k := 1) (by kernel_rfl) (rdS_cons (o := 5) (tot := 7) (rd_i64 (P := Tryz.prog) (t := 3) (by kernel_rfl)) (k := 1) (by kernel_rfl) (rdS_cons (o := 6) (tot := 7) (rd_u8 (P := Tryz.prog) (t := 5) (by kernel_rfl)) (k := 1) (by kernel_rfl) (rdS_nil (tot := 7)))))))))) (by kernel_rfl) (k := 7) (by kernel_rfl) (by kernel_rfl)) (rdA_cons (rd_str (P := Tryz.prog) (t := 9) (by kernel_rfl)) (rdA_nil)))) (fun ds h => by
    match ds, h with
    | [d0, d1, d2], _ => rfl) (fun z hz => by
      obtain ⟨⟨o, f, c, h, t, n, r, _⟩, l, s, _⟩ := z
      have hE : Steps14 (l.map (fun z => AV.agg 7 [boo z.1, boo z.2.1, str z.2.2.1, int z.2.2.2.1, int z.2.2.2.2.1, int z.2.2.2.2.2.1, u8A z.2.2.2.2.2.2.1])) (l.map fun z => (⟨z.1, z.2.1, z.2.2.1, z.2.2.2.1, z.2.2.2.2.1, z.2.2.2.2.2.1, z.2.2.2.2.2.2.1⟩ : Stp14)) := ⟨by rw [List.map_map]; rfl⟩
      exact (fnClientBytes (hx := hE)).spec trivial) (glob_of hL) hval hW
theorem jf0 : (Rows.clientBytesRow.wf (OpenSpec.ofChange (OpenSpec.ofChange Rows.clientBytesSpec).bare)) = true := by kernel_rfl
theorem jf3 : (Tryz.f3.params.all (Tryz.pinned.checked.prog.readableRec ·)) = true := by kernel_rfl
theorem jf4 : (namedTie Tryz.pinned.checked.prog Rows.clientBytesRow.named (OpenSpec.ofChange Rows.clientBytesSpec).bare.vars) = true := by kernel_rfl
theorem jf5 : ((Rows.clientBytesRow.stops == [])) = true := by kernel_rfl
theorem jf7 : ((Rows.clientBytesRow.knobs == [])) = true := by kernel_rfl
theorem jf9 : ((Rows.clientBytesRow.inPlace == Tryz.pinned.checked.prog.inPlace 3)) = true := by kernel_rfl
theorem jf10 : ((Rows.clientBytesRow.unfollowed == Tryz.pinned.checked.prog.unfollowed 3)) = true := by kernel_rfl
theorem jf11 : ((Rows.clientBytesRow.recurses == Tryz.pinned.checked.prog.recurses 3)) = true := by kernel_rfl
theorem jf12 : ((Rows.clientBytesRow.named == Tryz.pinned.checked.prog.varsNamed 3)) = true := by kernel_rfl
theorem jf13 : ((Rows.clientBytesRow.maps == (Tryz.f3.params.toList ++ (OpenSpec.ofChange Rows.clientBytesSpec).bare.plain.varTypes Tryz.pinned.checked.prog).any (Tryz.pinned.checked.prog.mapsRec ·))) = true := by kernel_rfl
theorem jf14 : ((Rows.clientBytesRow.ifaces == (Tryz.f3.params.toList ++ (OpenSpec.ofChange Rows.clientBytesSpec).bare.plain.varTypes Tryz.pinned.checked.prog).any (Tryz.pinned.checked.prog.ifacesRec ·))) = true := by kernel_rfl
theorem jf15 : ((Rows.clientBytesRow.mapsOut == Tryz.pinned.checked.prog.mapsAmong Tryz.f3.resultTypes.toList)) = true := by kernel_rfl
theorem jf16 : ((Rows.clientBytesRow.loops == (Tryz.f3.params.toList ++ (OpenSpec.ofChange Rows.clientBytesSpec).bare.plain.varTypes Tryz.pinned.checked.prog).any (Tryz.pinned.checked.prog.loopsFrom ·))) = true := by kernel_rfl
theorem jf17 : ((Rows.clientBytesRow.wideKeys == (Tryz.f3.params.toList ++ (OpenSpec.ofChange Rows.clientBytesSpec).bare.plain.varTypes Tryz.pinned.checked.prog ++ Tryz.f3.resultTypes.toList).any (Tryz.pinned.checked.prog.wideKeysFrom ·))) = true := by kernel_rfl
theorem jf18 : ((OpenSpec.ofChange Rows.clientBytesSpec).bare.vars.all (Tryz.pinned.checked.prog.varReadable ·)) = true := by kernel_rfl
theorem jf19 : (Tryz.f3.resultTypes.all (fun t => Tryz.pinned.checked.prog.readableRec t && decide (t < Tryz.pinned.checked.prog.types.size))) = true := by kernel_rfl
theorem jf20 : ((Rows.clientBytesRow.ifacesOut == Tryz.f3.resultTypes.toList.any (Tryz.pinned.checked.prog.ifacesRec ·))) = true := by kernel_rfl
theorem jf21 : ((Rows.clientBytesRow.loopsOut == Tryz.f3.resultTypes.toList.any (Tryz.pinned.checked.prog.loopsFrom ·))) = true := by kernel_rfl
theorem jf22 : ((Rows.clientBytesRow.plainKeys == Tryz.pinned.checked.prog.plainKeys)) = true := by kernel_rfl
theorem jf23 : (Rows.clientBytesRow.shortTexts.isNone) = true := by kernel_rfl
theorem jf26 : ((Rows.clientBytesRow.lifted == Tryz.pinned.checked.prog.liftsFinal)) = true := by kernel_rfl
theorem jf27 : ((Tryz.pinned.checked.prog.make == some Rows.clientBytesRow.make)) = true := by kernel_rfl
theorem jf28 : ((Rows.clientBytesRow.kinds == (if Rows.clientBytesRow.domain.isEmpty then [] else Tryz.f3.params.toList.map fun t => match Tryz.pinned.checked.prog.underlying t with | some (.int k) => some k | _ => none))) = true := by kernel_rfl
theorem jf29 : ((Rows.clientBytesRow.pinned == Rows.clientBytesRow.pinnedBy)) = true := by kernel_rfl
theorem jf30 : ((Rows.clientBytesRow.veiled == (Tryz.f3.params.toList ++ (OpenSpec.ofChange Rows.clientBytesSpec).bare.plain.varTypes Tryz.pinned.checked.prog ++ Tryz.f3.resultTypes.toList).any (Tryz.pinned.checked.prog.veiledRec ·))) = true := by kernel_rfl
theorem jf31 : (Rows.clientBytesRow.veiledFits Tryz.pinned.checked.prog Tryz.f3.params.toList (Tryz.f3.params.toList ++ (OpenSpec.ofChange Rows.clientBytesSpec).bare.plain.varTypes Tryz.pinned.checked.prog ++ Tryz.f3.resultTypes.toList)) = true := by kernel_rfl
theorem closed : joinedFacts Tryz.pinned.checked.prog 3 Tryz.f3 (OpenSpec.ofChange Rows.clientBytesSpec).bare Rows.clientBytesRow = true := by
  unfold joinedFacts
  exact (andI (andI (andI (andI (andI (andI (andI (andI (andI (andI (andI (andI (andI (andI (andI (andI (andI (andI (andI (andI (andI (andI (andI (andI (andI (andI (andI (andI (andI (andI (andI jf0 laidOut) cl_rowed) jf3) jf4) jf5) cl_stops) jf7) cl_knobs) jf9) jf10) jf11) jf12) jf13) jf14) jf15) jf16) jf17) jf18) jf19) jf20) jf21) jf22) jf23) cl_heard) cl_enter) jf26) jf27) jf28) jf29) jf30) jf31)
theorem said : Rows.ClientBytesSaid :=
  OpenClaim.holds_of_cond 3 Tryz.f3 rfl rfl rfl rfl rfl rfl rfl ⟨rfl, rfl, rfl, rfl, rfl⟩ rfl rfl rfl rfl rfl (by kernel_rfl) Tryz.func3 closed
    (of_decide_eq_true (by kernel_rfl)) (by unfold Func.isWrapper; first | (rw [if_pos (by decide +kernel)]; kernel_rfl) | (rw [if_neg (by decide +kernel)]; exact ⟨rfl, rfl⟩))
    (fun os started H enc _ F => by rw [OpenClaim.pre_eq_preRow]; exact lifted os started H enc F)
theorem plain (f : FuncId) (fn : Func) (hf : Tryz.pinned.checked.prog.funcNamed "twinspan/twinspanlaw14.ClientBytes" = some f) (hfn : Tryz.pinned.checked.prog.funcs[f]? = some fn) :
    false = Tryz.pinned.checked.prog.looks [] ∧ ∀ (j : Nat) t, fn.params[j]? = some t → Tryz.pinned.checked.prog.wantsStandIn t = false := by
  obtain rfl : f = 3 := Option.some.inj ((show Tryz.prog.funcNamed "twinspan/twinspanlaw14.ClientBytes" = some 3 by kernel_rfl).symm.trans hf) |>.symm
  obtain rfl : fn = Tryz.f3 := (Option.some.inj (Tryz.func3.symm.trans hfn)).symm
  refine ⟨by kernel_rfl, fun j t ht => ?_⟩
  have hall : Tryz.f3.params.toList.all (fun t => !Tryz.prog.wantsStandIn t) = true := by kernel_rfl
  have := List.all_eq_true.1 hall t (by simpa using Array.mem_of_getElem? ht)
  show Tryz.prog.wantsStandIn t = false
  simpa using this
theorem card : Rows.ClientBytesCardSaid :=
  Claim7.holds_tied_plain_at .later [] _ _ _ _ said (fun _ h => by cases h) (by kernel_rfl) (fun _ h => by cases h) clientBytes_row_tie rfl ⟨rfl, rfl⟩ (by kernel_rfl) rfl plain (by kernel_rfl)
end Go.Proofs.YtkijoddconipoaaGreatDoor.clientBytes
