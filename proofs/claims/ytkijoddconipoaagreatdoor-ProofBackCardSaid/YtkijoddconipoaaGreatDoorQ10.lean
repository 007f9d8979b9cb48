/- Law 09: the law that ways lead, walked. -/
import Derived.Test.YtkijoddconipoaaGreatDoorP1
import Derived.Test.YtkijoddconipoaaGreatDoorP2
import Derived.Test.YtkijoddconipoaaGreatDoorP3
import Derived.Test.YtkijoddconipoaaGreatDoorP4
import Derived.Test.YtkijoddconipoaaGreatDoorP5
import Derived.Test.YtkijoddconipoaaGreatDoorQ1
import Derived.Test.YtkijoddconipoaaGreatDoorQ2
import Derived.Test.YtkijoddconipoaaGreatDoorK1
import Derived.Test.YtkijoddconipoaaGreatDoorQ3
import Derived.Test.YtkijoddconipoaaGreatDoorQ4
import Derived.Test.YtkijoddconipoaaGreatDoorQ5
import Derived.Test.YtkijoddconipoaaGreatDoorQ13
import Derived.Test.YtkijoddconipoaaGreatDoorQ14
import Derived.Test.YtkijoddconipoaaGreatDoorQ6
import Derived.Test.YtkijoddconipoaaGreatDoorQ7
import Derived.Test.YtkijoddconipoaaGreatDoorQ8
namespace Go.Proofs.YtkijoddconipoaaGreatDoor
open Go Go.RowKit Tw Av
theorem foldH_path {l : List Hsh} {i : Nat} (h : i < l.length) (h2 : l.length ≤ 2000) : foldH l.length i l[i] (pathH l i) = some (topH l.length (treeH l)) := by
  have hw := way_eq h h2
  unfold foldH
  rw [if_neg (by rw [pathH_len]; omega), pathH, hw, up_path l.length l i l[i] rfl (List.getElem?_eq_getElem h)]
theorem foldH_long {l : List Hsh} {i : Int} {h x : Hsh} : foldH l.length i h (pathH l i ++ [x]) = none := by
  unfold foldH
  rw [if_pos (by rw [List.length_append, pathH_len]; simp)]
theorem tmod_rng (a : Int) {b : Int} (h : 0 < b) : -b < a.tmod b ∧ a.tmod b < b := ⟨Int.lt_tmod_of_pos a h, Int.tmod_lt_of_pos a h⟩
end Go.Proofs.YtkijoddconipoaaGreatDoor
