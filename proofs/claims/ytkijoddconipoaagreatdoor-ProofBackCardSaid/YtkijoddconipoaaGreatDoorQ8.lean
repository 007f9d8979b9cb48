/- Law 09: laws on roots and ways, walked. -/
import Derived.Test.YtkijoddconipoaaGreatDoorP1
import Derived.Test.YtkijoddconipoaaGreatDoorP2
import Derived.Test.YtkijoddconipoaaGreatDoorP3
import Derived.Test.YtkijoddconipoaaGreatDoorP4
import Derived.Test.YtkijoddconipoaaGreatDoorP5
import Derived.Test.YtkijoddconipoaaGreatDoorQ1
import Derived.Test.YtkijoddconipoaaGreatDoorQ2
import Derived.Test.YtkijoddconipoaaGreatDoorK1
import Derived.Test.YtkijoddconipoaaGreatDoorQ3
import Derived.Test.YtkijoddconipoaaGreatDoorQ4
import Derived.Test.YtkijoddconipoaaGreatDoorQ5
import Derived.Test.YtkijoddconipoaaGreatDoorQ13
import Derived.Test.YtkijoddconipoaaGreatDoorQ14
import Derived.Test.YtkijoddconipoaaGreatDoorQ6
import Derived.Test.YtkijoddconipoaaGreatDoorQ7
namespace Go.Proofs.YtkijoddconipoaaGreatDoor
open Go Go.RowKit Tw Av
theorem fewOf_len (l : List Ent) : (fewOf l).length ≤ 12 := by
  unfold fewOf
  rw [refOf_eq]
  refine Nat.le_trans (dictOf_len1 _) ?_
  simp
  omega
theorem fewOf_dict (l : List Ent) : dictOf (fewOf l) = fewOf l := dictOf_refOf _
instance fnRPath {d : List Ent} {i : Int} {xs : List AV} {id : Option Value} [Ents xs d] : Ans Tryz.prog GL 72 [.sl 2 xs id, int i] (d.length ≤ 2000) (.sl 32 ((pathH (d.map leafH) i).map hA) none) := rpath_ans 2000 (Nat.le_refl _)
end Go.Proofs.YtkijoddconipoaaGreatDoor
