/- Law 09: the law on maps that are the same, walked. -/
import Derived.Test.YtkijoddconipoaaDoorP1
import Derived.Test.YtkijoddconipoaaDoorP2
import Derived.Test.YtkijoddconipoaaDoorP3
import Derived.Test.YtkijoddconipoaaDoorP4
import Derived.Test.YtkijoddconipoaaDoorQ1
import Derived.Test.YtkijoddconipoaaDoorQ2
import Derived.Test.YtkijoddconipoaaDoorK1
import Derived.Test.YtkijoddconipoaaDoorQ3
import Derived.Test.YtkijoddconipoaaDoorQ4
import Derived.Test.YtkijoddconipoaaDoorQ5
import Derived.Test.YtkijoddconipoaaDoorQ6
import Derived.Test.YtkijoddconipoaaDoorQ7
import Derived.Test.YtkijoddconipoaaDoorQ8
import Derived.Test.YtkijoddconipoaaDoorQ10
import Derived.Test.YtkijoddconipoaaDoorQ11
namespace Go.Proofs.YtkijoddconipoaaDoor
open Go Go.RowKit Tw Av
theorem few_one (x : Ent) : fewOf [x] = [cut12 x] := by
  unfold fewOf
  rw [refOf_eq]
  refine dictOf_id (by simp [Srt]) (fun y hy => ?_) (by simp)
  simp at hy
  subst hy
  simp only [cut12, List.length_take]
  omega
theorem fewOf_fits (l : List Ent) : Fits (fewOf l) := by
  unfold fewOf
  rw [refOf_eq]
  exact dictOf_fits _
theorem fewOf_srt (l : List Ent) : Srt (fewOf l) := by
  unfold fewOf
  rw [refOf_eq]
  exact dictOf_srt _
set_option maxHeartbeats 2000000 in
instance fnTreeSame {l : List Ent} {a b : Bs} {xs : List AV} {id : Option Value} [hx : Ents xs l] : Ans Tryd.prog GL 14 [.sl 2 xs id, .agg 2 [str a, str b]] True (boo true) := ⟨fun _ => by
  have h1 := hx.out
  subst h1
  refine spec_enter Tryd.func14 rfl Tryd.ntmps14 rfl (fun _ hs => ?_)
  repeat' (first | refine W ?_ | refine ob2 (fun _ => ?_) | intro _)
  have h3 := fewOf_len l
  have h4 := fewOf_dict l
  have h5 := fewOf_srt l
  have h6 := fewOf_fits l
  generalize fewOf l = m at *
  have hm : (m.map entA).length = m.length := List.length_map _
  repeat' (first | refine W ?_ | refine ob2 (fun _ => ?_) | intro _)
  rw [h4]
  repeat' (first | refine W ?_ | refine ob2 (fun _ => ?_) | intro _)
  refine ac_as 8 (Imp.nil (k := 2)) ?_
  refine ac_st (fun ok w h => h.full 29 2 none 0) ?_
  rename_i g3 g7
  refine ac_loop (α := Nat × Value) (fun q => [(3, ptr g3), (5, boo true), (6, .sl 2 (m.map entA) none), (7, ptr g7), (8, .sl 2 ((m.drop q.1).reverse.map entA) (some q.2)), (9, int ((q.1 : Int) - 1))]) (fun q => [.tail 29 2 q.2, .var g7 32 (dA m), .var g3 29 (entA ⟨a, b⟩)])
    (fun q => q.1 ≤ m.length) (fun q => q.1) (m.length, .slice none 0 0) ⟨rfl, rfl, rfl, rfl, by dsimp only; rw [List.drop_length]; rfl, by dsimp only; rw [← hm]; rfl, trivial⟩ ?_ (Nat.le_refl _) ?_
  · repeat (first | exact List.nil_sublist _ | exact List.Sublist.refl _ | apply List.Sublist.cons_cons | apply List.Sublist.cons)
  rintro ⟨j, v⟩ hj
  dsimp only at hj ⊢
  have hdl : (((m.drop j).reverse).map entA).length = m.length - j := by simp
  repeat' (first | refine W ?_ | refine ob2 (fun _ => ?_) | intro _)
  refine ac_cond (fun hlt => ?_) (fun hlt => ?_)
  · obtain ⟨i, rfl⟩ : ∃ i, j = i + 1 := ⟨j - 1, by omega⟩
    have hil : i < m.length := by omega
    rw [show (((i + 1 : Nat) : Int) - 1) = (i : Int) by omega]
    repeat' (first | refine W ?_ | refine op2 ?_ | refine ob4 ?_ | refine ob2 (fun _ => ?_) | intro _ | simp only [List.set])
    refine al_append (fun v' => ?_)
    repeat' (first | refine W ?_ | refine op2 ?_ | refine ob4 ?_ | refine ob2 (fun _ => ?_) | intro _ | simp only [List.set])
    refine ae_as 8 (v' := .sl 2 (((m.drop i).reverse).map entA) (some v')) (Imp.of_eq ?_) ?_
    · rw [List.drop_eq_getElem_cons hil, List.reverse_cons, List.map_append]
      rfl
    refine ae_round (i, v') ⟨rfl, rfl, rfl, rfl, rfl, rfl, trivial⟩ ?_ (by dsimp only; omega) (by dsimp only; omega)
    repeat (first | exact List.nil_sublist _ | exact List.Sublist.refl _ | apply List.Sublist.cons_cons | apply List.Sublist.cons)
  · obtain rfl : j = 0 := by omega
    rw [List.drop_zero]
    repeat' (first | refine W ?_ | refine op2 ?_ | refine ob4 ?_ | refine ob2 (fun _ => ?_) | intro _ | simp only [List.set])
    have h7 : dictOf m.reverse = m := dictOf_perm h5 h6 (by omega) (List.reverse_perm m)
    rw [h7, few_one]
    simp only [List.map_cons, List.map_nil, cut12]
    have hk : (a.take 12).length ≤ 12 := by rw [List.length_take]; omega
    have hw : (b.take 12).length ≤ 12 := by rw [List.length_take]; omega
    generalize a.take 12 = k at *
    generalize b.take 12 = w at *
    have hpe : putE m k w = 0 := by
      unfold putE
      rw [if_neg (by omega)]
      split
      · rfl
      · rw [if_neg (by omega)]
    have hpa : putA m k w = dA (putL m k w) := by
      unfold putA
      rw [if_pos hpe]
    have hpl : (putL m k w).length ≤ 1000 := by
      unfold putL
      split <;> simp <;> omega
    have hdp := drop_put (v := w) (k := k) h5
    repeat' (first | refine W ?_ | refine op2 ?_ | refine ob4 ?_ | refine ob2 (fun _ => ?_) | intro _ | simp only [List.set] | refine gdT ?_ | refine gdF ?_ | refine cdT ?_ | refine cdF ?_)
    rw [hpa, hpe]
    repeat' (first | refine W ?_ | refine op2 ?_ | refine ob4 ?_ | refine ob2 (fun _ => ?_) | intro _ | simp only [List.set] | refine gdT ?_ | refine gdF ?_ | refine cdT ?_ | refine cdF ?_)
    have hpath : ∀ i : Int, (pathH (m.map leafH) i).length = (wayOf m.length i).length := fun i => by rw [pathH_len, List.length_map]
    have hpl12 : ∀ i : Int, (pathH (m.map leafH) i).length ≤ 12 := fun i => by
      rw [hpath]
      exact Nat.le_trans (way_len _ _) h3
    rename_i g10 g14 g16
    cases hb : bsIs m k
    focus
      obtain ⟨e1, e2⟩ := hdp hb
      rw [if_pos e2, e1]
      repeat' (first | refine W ?_ | refine op2 ?_ | refine ob4 ?_ | refine ob2 (fun _ => ?_) | intro _ | simp only [List.set])
    rotate_left
    focus
      repeat' (first | refine W ?_ | refine op2 ?_ | refine ob4 ?_ | refine ob2 (fun _ => ?_) | intro _ | simp only [List.set])
    all_goals
      refine ac_loop (α := Nat) (fun i => [(5, boo true), (6, .sl 2 (m.map entA) none), (7, ptr g7), (10, ptr g10), (18, int i)]) (fun i => [.var g10 32 (dA m), .var g7 32 (dA m)])
        (fun i => i ≤ m.length) (fun i => m.length - i) 0 ⟨rfl, rfl, rfl, rfl, rfl, trivial⟩ ?_ (Nat.zero_le _) ?_
      focus
        repeat (first | exact List.nil_sublist _ | exact List.Sublist.refl _ | apply List.Sublist.cons_cons | apply List.Sublist.cons)
      intro i hi
      repeat' (first | refine W ?_ | refine op2 ?_ | refine ob4 ?_ | refine ob2 (fun _ => ?_) | intro _ | simp only [List.set])
      refine ac_cond (fun hlt => ?_) (fun hlt => ?_)
      focus
        have hil : i < m.length := by omega
        have hp1 := hpath (i : Int)
        have hp2 := hpl12 (i : Int)
        have hp3 : ((pathH (m.map leafH) (i : Int)).map hA).length = (pathH (m.map leafH) (i : Int)).length := List.length_map _
        repeat' (first | refine W ?_ | refine op2 ?_ | refine ob4 ?_ | refine ob2 (fun _ => ?_) | intro _ | simp only [List.set])
        rw [hm, decide_eq_false (show ¬ ((((pathH (m.map leafH) (i : Int)).map hA).length : Int) ≠ ((wayOf m.length (i : Int)).length : Int)) by omega)]
        repeat' (first | refine W ?_ | refine op2 ?_ | refine ob4 ?_ | refine ob2 (fun _ => ?_) | intro _ | simp only [List.set])
        exact ae_round (i + 1) ⟨rfl, rfl, rfl, rfl, rfl, trivial⟩ (List.Sublist.refl _) hil (by omega)
      focus
        repeat' (first | refine W ?_ | refine op2 ?_ | refine ob4 ?_ | refine ob2 (fun _ => ?_) | intro _ | simp only [List.set])
        refine reE ?_
        rfl⟩
end Go.Proofs.YtkijoddconipoaaDoor
