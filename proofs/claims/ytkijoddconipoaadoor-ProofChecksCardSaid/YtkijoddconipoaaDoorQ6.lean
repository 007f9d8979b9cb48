/- Law 09: its small functions. -/
import Derived.Test.YtkijoddconipoaaDoorP1
import Derived.Test.YtkijoddconipoaaDoorP2
import Derived.Test.YtkijoddconipoaaDoorP3
import Derived.Test.YtkijoddconipoaaDoorP4
import Derived.Test.YtkijoddconipoaaDoorQ1
import Derived.Test.YtkijoddconipoaaDoorQ2
import Derived.Test.YtkijoddconipoaaDoorK1
import Derived.Test.YtkijoddconipoaaDoorQ3
import Derived.Test.YtkijoddconipoaaDoorQ4
import Derived.Test.YtkijoddconipoaaDoorQ5
namespace Go.Proofs.YtkijoddconipoaaDoor
open Go Go.RowKit Tw Av
instance fnAwake : Ans Tryd.prog GL 19 [] True (boo true) := ⟨fun _ => by
  refine spec_enter Tryd.func19 rfl Tryd.ntmps19 rfl (fun _ hs => ?_)
  repeat' (first | refine W ?_ | refine ob2 (fun _ => ?_) | intro _)
  apply obl_read []; exact rfl; exact rfl; kernel_rfl; intro _ _
  refine al_on ?_
  refine al_callE (hp := Nat.le_trans (dictOf_len1 _) (by simp)) ?_
  exact al_nil (ae_got rfl rfl)
  repeat' (first | refine W ?_ | refine ob2 (fun _ => ?_) | intro _)
  apply obl_read []; exact rfl; exact rfl; kernel_rfl; intro _ _
  refine al_on ?_
  refine al_eqA ?_
  exact al_nil (ae_got rfl rfl)
  repeat' (first | refine W ?_ | refine ob2 (fun _ => ?_) | intro _)
  refine reE ?_
  have hd : dictOf [(⟨[97], [49]⟩ : Ent)] = [⟨[97], [49]⟩] := dictOf_id (by simp [Srt]) (by intro x hx; simp at hx; subst hx; simp) (by simp)
  rw [hd]
  simp [outOf]⟩
def cut12 (x : Ent) : Ent := ⟨x.key.take 12, x.val.take 12⟩
def fewOf (l : List Ent) : List Ent := refOf ((l.take 12).map cut12)
instance fnFew {l : List Ent} {xs : List AV} {id : Option Value} [hx : Ents xs l] : Ans Tryd.prog GL 20 [.sl 2 xs id] True (.sl 2 ((fewOf l).map entA) none) := ⟨fun _ => by
  have h := hx.out
  subst h
  refine spec_enter Tryd.func20 rfl Tryd.ntmps20 rfl (fun _ hs => ?_)
  repeat' (first | refine W ?_ | refine ob2 (fun _ => ?_) | intro _)
  refine ac_as 3 (Imp.nil (k := 2)) ?_
  refine ac_st (fun ok w h => h.full 29 2 none 0) ?_
  refine ac_loop (α := Nat × Value) (fun q => [(0, .sl 2 (l.map entA) id), (3, .sl 2 (((l.take q.1).map cut12).map entA) (some q.2)), (4, int q.1)]) (fun q => [.tail 29 2 q.2]) (fun q => q.1 ≤ l.length ∧ q.1 ≤ 12) (fun q => 12 - q.1) (0, .slice none 0 0) ⟨rfl, rfl, rfl, trivial⟩ (List.Sublist.refl _) ⟨Nat.zero_le _, Nat.zero_le _⟩ ?_
  rintro ⟨i, v⟩ ⟨g1, g2⟩
  dsimp only at g1 g2 ⊢
  have hm : (l.map entA).length = l.length := List.length_map _
  repeat' (first | refine W ?_ | refine ob2 (fun _ => ?_) | intro _)
  refine gu1 (fun h1 => ?_) (fun h1 => ?_)
  · repeat' (first | refine W ?_ | refine ob2 (fun _ => ?_) | intro _)
    refine ac_cond (fun h2 => ?_) (fun h2 => ?_)
    · have hlt : i < l.length := by omega
      repeat' (first | refine W ?_ | refine ob2 (fun _ => ?_) | intro _)
      refine al_idxM i hlt ?_
      repeat' (first | refine W ?_ | refine ob2 (fun _ => ?_) | intro _)
      have hcl : (l.take (i + 1)).map cut12 = (l.take i).map cut12 ++ [cut12 l[i]] := by rw [List.take_succ_eq_append_getElem hlt, List.map_append]; rfl
      rename_i g5
      refine ac_cond (fun h3 => ?_) (fun h3 => ?_)
      focus
        repeat' (first | refine W ?_ | refine ob2 (fun _ => ?_) | intro _)
        refine al_sliceS 0 12 ?_
        rw [List.drop_zero]
        repeat' (first | refine W ?_ | refine ob2 (fun _ => ?_) | intro _)
      rotate_left
      focus
        refine ac_asV (g := g5) (v' := .agg 2 [str (l[i].key.take 12), str l[i].val]) (by rw [List.take_of_length_le (by omega)]; exact fun _ _ _ h => h) ?_
        repeat' (first | refine W ?_ | refine ob2 (fun _ => ?_) | intro _)
      all_goals
        refine ac_cond (fun h4 => ?_) (fun h4 => ?_)
        focus
          repeat' (first | refine W ?_ | refine ob2 (fun _ => ?_) | intro _)
          refine al_sliceS 0 12 ?_
          rw [List.drop_zero]
          repeat' (first | refine W ?_ | refine ob2 (fun _ => ?_) | intro _)
        rotate_left
        focus
          refine ac_asV (g := g5) (v' := .agg 2 [str (l[i].key.take 12), str (l[i].val.take 12)]) (by rw [List.take_of_length_le (l := l[i].val) (by omega)]; exact fun _ _ _ h => h) ?_
          repeat' (first | refine W ?_ | refine ob2 (fun _ => ?_) | intro _)
      all_goals
        refine al_append (fun v' => ?_)
        repeat' (first | refine W ?_ | refine ob2 (fun _ => ?_) | intro _)
        refine ae_as 3 (v' := .sl 2 (((l.take (i + 1)).map cut12).map entA) (some v')) (Imp.of_eq (by rw [hcl, List.map_append])) ?_
        refine ae_round (i + 1, v') ⟨rfl, rfl, rfl, trivial⟩ ?_ ⟨hlt, by dsimp only; omega⟩ (by dsimp only; omega)
        repeat (first | exact List.nil_sublist _ | exact List.Sublist.refl _ | apply List.Sublist.cons_cons | apply List.Sublist.cons)
    · obtain rfl : i = 12 := by omega
      repeat' (first | refine W ?_ | refine ob2 (fun _ => ?_) | intro _)
      refine reE ?_
      rfl
  · obtain rfl : i = l.length := by omega
    repeat' (first | refine W ?_ | refine ob2 (fun _ => ?_) | intro _)
    refine reE ?_
    rw [fewOf, List.take_of_length_le (by omega), List.take_of_length_le (l := l) (by omega)]
    rfl⟩
end Go.Proofs.YtkijoddconipoaaDoor
