/- Law 09: the law on small trees, walked. -/
import Derived.Test.YtkijoddconipoaaDoorP1
import Derived.Test.YtkijoddconipoaaDoorP2
import Derived.Test.YtkijoddconipoaaDoorP3
import Derived.Test.YtkijoddconipoaaDoorP4
import Derived.Test.YtkijoddconipoaaDoorQ1
import Derived.Test.YtkijoddconipoaaDoorQ2
import Derived.Test.YtkijoddconipoaaDoorK1
import Derived.Test.YtkijoddconipoaaDoorQ3
import Derived.Test.YtkijoddconipoaaDoorQ4
import Derived.Test.YtkijoddconipoaaDoorQ5
import Derived.Test.YtkijoddconipoaaDoorQ6
import Derived.Test.YtkijoddconipoaaDoorQ7
import Derived.Test.YtkijoddconipoaaDoorQ8
import Derived.Test.YtkijoddconipoaaDoorQ10
namespace Go.Proofs.YtkijoddconipoaaDoor
open Go Go.RowKit Tw Av
theorem treeH_1 (a : Hsh) : treeH [a] = a := rfl
theorem treeH_2 (a b : Hsh) : treeH [a, b] = nodeH a b := by
  rw [treeH_step [a, b] (by simp), show ([a, b].length + 1) / 2 = 1 by simp]
  rfl
theorem treeH_3 (a b c : Hsh) : treeH [a, b, c] = nodeH (nodeH a b) c := by
  rw [treeH_step [a, b, c] (by simp), show ([a, b, c].length + 1) / 2 = 2 by simp]
  show nodeH (treeH [a, b]) (treeH [c]) = _
  rw [treeH_2, treeH_1]
theorem pathH_3 (a b c : Hsh) : pathH [a, b, c] 2 = [nodeH a b] := by
  have h := pathH_step (l := [a, b, c]) (i := 2) (k := 2) (by simp) (by simp) (by simp) (by simp)
  rw [if_neg (by omega), pathH_bad (l := [a, b, c].drop 2) (by simp)] at h
  refine h.trans ?_
  show [treeH [a, b]] = _
  rw [treeH_2]
theorem fewOf_take (l : List Ent) (n : Nat) : dictOf ((fewOf l).take n) = (fewOf l).take n := by
  have h1 := fewOf_len l
  unfold fewOf at h1 ⊢
  rw [refOf_eq] at h1 ⊢
  refine dictOf_id ((dictOf_srt _).sublist (List.take_sublist _ _)) (fun x hx => dictOf_fits _ x (List.mem_of_mem_take hx)) ?_
  rw [List.length_take]
  omega
theorem spec_imp1 {P : Program} {gl : List (Nat × AV)} {f : FuncId} {a b : AV} {m : List Av.Piece} {K : AV → List Av.Piece → Prop} (hi : ∀ ok w v, RV0 ok w a v → RV0 ok w b v) (h : Av.Spec P gl f [b] m K) : Av.Spec P gl f [a] m K := Av.Spec.mk fun ok w c hS hv => by
  refine h.run ok w c hS ?_
  rw [RVs] at hv ⊢
  obtain ⟨u, us, h1, h2, h3⟩ := hv
  exact ⟨u, us, h1, hi _ _ _ h2, h3⟩
theorem imp_dnil : ∀ ok w v, RV0 ok w (.agg 1 [nils]) v → RV0 ok w (.agg 1 [.sl 2 [] none]) v := fun ok w v h => Imp.ofC (ImpC.agg1 ImpC.nil) ok w v h
instance fnRoot0 : Ans Tryd.prog GL 21 [.agg 1 [nils]] True (hA (topH 0 (treeH []))) := ⟨fun _ => spec_imp1 imp_dnil ((fnRoot (d := []) (xs := []) (id := none)).spec (by simp))⟩
set_option maxHeartbeats 2000000 in
instance fnTreeSmall {l : List Ent} {xs : List AV} {id : Option Value} [hx : Ents xs l] : Ans Tryd.prog GL 7 [.sl 2 xs id] True (boo true) := ⟨fun _ => by
  have h1 := hx.out
  subst h1
  refine spec_enter Tryd.func7 rfl Tryd.ntmps7 rfl (fun _ hs => ?_)
  repeat' (first | refine W ?_ | refine ob2 (fun _ => ?_) | intro _)
  have h3 := fewOf_len l
  have h4 := fewOf_dict l
  have h5 := fewOf_take l 3
  generalize fewOf l = f at *
  have hm : (f.map entA).length = f.length := List.length_map _
  repeat' (first | refine W ?_ | refine opE ?_ | refine obE ?_ | refine ob2 (fun _ => ?_) | intro _)
  refine ac_cond (fun h2 => ?_) (fun h2 => ?_)
  focus
    repeat' (first | refine W ?_ | refine ob2 (fun _ => ?_) | intro _)
    refine al_sliceD 0 3 ?_
    rw [show ((f.map entA).take 3).drop 0 = (f.take 3).map entA by rw [List.map_take, List.drop_zero]]
    have h6 : (f.take 3).length ≤ 3 := by rw [List.length_take]; omega
    have h7 := h5
    generalize f.take 3 = q at *
    clear h2
  rotate_left
  focus
    have h6 : f.length ≤ 3 := by omega
    have h7 := h4
    clear h5 h2 hm h3 h4
    generalize f = q at *
  all_goals
    rcases q with _ | ⟨⟨a1, a2⟩, _ | ⟨⟨b1, b2⟩, _ | ⟨⟨c1, c2⟩, _ | ⟨x, _⟩⟩⟩⟩
    all_goals try (exact absurd h6 (by simp only [List.length_cons]; omega))
    all_goals simp only [List.map_cons, List.map_nil, entA]
    all_goals try clear hm
    all_goals repeat' (first | refine W ?_ | refine ob2 (fun _ => ?_) | intro _)
    all_goals clear h6
    focus
      refine reE ?_
      simp [outOf]
    all_goals rw [h7]
    all_goals clear h7
    all_goals repeat' (first | refine W ?_ | refine ob2 (fun _ => ?_) | intro _)
    all_goals simp only [List.map_cons, List.map_nil, treeH_1, treeH_2, List.length_cons, List.length_nil]
    all_goals repeat' (first | refine W ?_ | refine op3 ?_ | refine ob5 ?_ | refine opE ?_ | refine obE ?_ | refine ob2 (fun _ => ?_) | intro _)
    focus
      refine reE ?_
      simp [outOf]
    focus
      refine reE ?_
      simp [outOf]
    all_goals simp only [List.map_cons, List.map_nil, treeH_3, pathH_3, List.length_cons, List.length_nil, show ((0 + 1 + 1 + 1 : Nat) : Int) = 3 from rfl, decide_true, Bool.not_true]
    all_goals repeat' (first | refine W ?_ | refine op3 ?_ | refine ob5 ?_ | refine opE ?_ | refine obE ?_ | refine ob2 (fun _ => ?_) | intro _)
    all_goals
      refine reE ?_
      simp [outOf]⟩
end Go.Proofs.YtkijoddconipoaaDoor
