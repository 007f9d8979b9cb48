/- Law 09: laws on roots and ways, walked. -/
import Derived.Test.YtkijoddconipoaaDoorP1
import Derived.Test.YtkijoddconipoaaDoorP2
import Derived.Test.YtkijoddconipoaaDoorP3
import Derived.Test.YtkijoddconipoaaDoorP4
import Derived.Test.YtkijoddconipoaaDoorQ1
import Derived.Test.YtkijoddconipoaaDoorQ2
import Derived.Test.YtkijoddconipoaaDoorK1
import Derived.Test.YtkijoddconipoaaDoorQ3
import Derived.Test.YtkijoddconipoaaDoorQ4
import Derived.Test.YtkijoddconipoaaDoorQ5
import Derived.Test.YtkijoddconipoaaDoorQ6
import Derived.Test.YtkijoddconipoaaDoorQ7
namespace Go.Proofs.YtkijoddconipoaaDoor
open Go Go.RowKit Tw Av
theorem fewOf_len (l : List Ent) : (fewOf l).length ≤ 12 := by
  unfold fewOf
  rw [refOf_eq]
  refine Nat.le_trans (dictOf_len1 _) ?_
  simp
  omega
theorem fewOf_dict (l : List Ent) : dictOf (fewOf l) = fewOf l := dictOf_refOf _
instance fnTreeFolds {n i : Int} {h : Hsh} {p : List Hsh} {xs : List AV} {id : Option Value} [hx : Hshs xs p] : Ans Tryd.prog GL 6 [.agg 2 [int n, int i], hA h, .sl 32 xs id] (n ≤ 9223372036854775807) (boo true) := ⟨fun hn => by
  have h1 := hx.out
  subst h1
  refine spec_enter Tryd.func6 rfl Tryd.ntmps6 rfl (fun _ hs => ?_)
  repeat' (first | refine W ?_ | refine ob2 (fun _ => ?_) | intro _)
  refine ac_cond (fun h2 => ?_) (fun h2 => ?_)
  focus
    repeat' (first | refine W ?_ | refine ob2 (fun _ => ?_) | intro _)
    refine al_sliceD 0 14 ?_
    repeat' (first | refine W ?_ | refine ob2 (fun _ => ?_) | intro _)
  rotate_left
  focus
    repeat' (first | refine W ?_ | refine ob2 (fun _ => ?_) | intro _)
  all_goals
    repeat' (first | refine W ?_ | refine opE ?_ | refine obE ?_ | refine ob2 (fun _ => ?_) | intro _)
    refine reE ?_
    simp [outOf]⟩
instance fnRPath {d : List Ent} {i : Int} {xs : List AV} {id : Option Value} [Ents xs d] : Ans Tryd.prog GL 33 [.sl 2 xs id, int i] (d.length ≤ 2000) (.sl 32 ((pathH (d.map leafH) i).map hA) none) := rpath_ans 2000 (Nat.le_refl _)
set_option maxHeartbeats 2000000 in
instance fnTreeRoots {l : List Ent} {a b : Hsh} {n : Int} {xs : List AV} {id : Option Value} [hx : Ents xs l] : Ans Tryd.prog GL 3 [.sl 2 xs id, .agg 64 [hA a, hA b], int n] (n ≤ 9223372036854775807) (boo true) := ⟨fun hn => by
  have h1 := hx.out
  subst h1
  refine spec_enter Tryd.func3 rfl Tryd.ntmps3 rfl (fun _ hs => ?_)
  repeat' (first | refine W ?_ | refine ob2 (fun _ => ?_) | intro _)
  have h3 := fewOf_len l
  have h4 := fewOf_dict l
  have hm : ((fewOf l).map entA).length = (fewOf l).length := List.length_map _
  generalize fewOf l = f at *
  refine ac_cond (fun h2 => ?_) (fun h2 => ?_)
  focus
    repeat' (first | refine W ?_ | refine ob2 (fun _ => ?_) | intro _)
    refine al_idxM (l := f) (f := entA) 0 (by omega) ?_
    repeat' (first | refine W ?_ | refine ob2 (fun _ => ?_) | intro _)
  rotate_left
  focus
    repeat' (first | refine W ?_ | refine ob2 (fun _ => ?_) | intro _)
  all_goals
    repeat' (first | refine W ?_ | refine opE ?_ | refine obE ?_ | refine ob2 (fun _ => ?_) | intro _)
    rw [h4]
    repeat' (first | refine W ?_ | refine opE ?_ | refine obE ?_ | refine ob2 (fun _ => ?_) | intro _)
    refine reE ?_
    simp [outOf]⟩
instance fnTreeWays {l : List Ent} {at_ n i : Int} {xs : List AV} {id : Option Value} [hx : Ents xs l] : Ans Tryd.prog GL 5 [.sl 2 xs id, int at_, .agg 2 [int n, int i]] True (boo true) := ⟨fun _ => by
  have h1 := hx.out
  subst h1
  refine spec_enter Tryd.func5 rfl Tryd.ntmps5 rfl (fun _ hs => ?_)
  repeat' (first | refine W ?_ | refine ob2 (fun _ => ?_) | intro _)
  have h3 := fewOf_len l
  have h4 := fewOf_dict l
  have h5 : (pathH ((fewOf l).map leafH) at_).length ≤ 12 := by
    rw [pathH_len]
    refine Nat.le_trans (way_len _ _) ?_
    simpa using h3
  generalize fewOf l = f at *
  repeat' (first | refine W ?_ | refine ob2 (fun _ => ?_) | intro _)
  rw [h4]
  repeat' (first | refine W ?_ | refine ob2 (fun _ => ?_) | intro _)
  rw [show decide (pathH (f.map leafH) at_ = pathH (f.map leafH) at_) = true from decide_eq_true rfl]
  repeat' (first | refine W ?_ | refine ob2 (fun _ => ?_) | intro _)
  refine reE ?_
  simp [outOf]⟩
end Go.Proofs.YtkijoddconipoaaDoor
