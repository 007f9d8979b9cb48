/- Law 10: what is made. -/
import Derived.Test.YtkijoddconipoaaGreatDoorP1
import Derived.Test.YtkijoddconipoaaGreatDoorP2
import Derived.Test.YtkijoddconipoaaGreatDoorP3
import Derived.Test.YtkijoddconipoaaGreatDoorP4
import Derived.Test.YtkijoddconipoaaGreatDoorP5
import Derived.Test.YtkijoddconipoaaGreatDoorQ1
import Derived.Test.YtkijoddconipoaaGreatDoorQ2
import Derived.Test.YtkijoddconipoaaGreatDoorK1
import Derived.Test.YtkijoddconipoaaGreatDoorQ3
import Derived.Test.YtkijoddconipoaaGreatDoorQ4
import Derived.Test.YtkijoddconipoaaGreatDoorQ5
import Derived.Test.YtkijoddconipoaaGreatDoorQ13
import Derived.Test.YtkijoddconipoaaGreatDoorQ14
import Derived.Test.YtkijoddconipoaaGreatDoorQ6
import Derived.Test.YtkijoddconipoaaGreatDoorQ7
import Derived.Test.YtkijoddconipoaaGreatDoorQ8
import Derived.Test.YtkijoddconipoaaGreatDoorQ10
import Derived.Test.YtkijoddconipoaaGreatDoorR10
import Derived.Test.YtkijoddconipoaaGreatDoorR11
import Derived.Test.YtkijoddconipoaaGreatDoorR12
import Derived.Test.YtkijoddconipoaaGreatDoorR19
namespace Go.Proofs.YtkijoddconipoaaGreatDoor
open Go Go.RowKit Tw Av
theorem atP_len {d : List Ent} (h : d.length ≤ 10) (i : Int) : (atP d i).p.length ≤ 10 := by
  unfold atP
  dsimp only
  rw [pathH_len]
  exact Nat.le_trans (way_len _ _) (by simpa using h)
theorem memP_len {d : List Ent} (h : d.length ≤ 10) (i : Nat) (b : Bool) : (memP d i b).p.length ≤ 10 := by
  unfold memP
  split
  · exact atP_len h _
  · simp [zeroP]
theorem absG_lens {d : List Ent} (h : d.length ≤ 10) (i : Nat) (b : Bool) : (absG d i b).a.p.length ≤ 10 ∧ (absG d i b).b.p.length ≤ 10 := by
  unfold absG
  split
  · simp [zeroG, zeroP]
  · dsimp only
    constructor
    · split
      · exact atP_len h _
      · simp [zeroP]
    · split
      · exact atP_len h _
      · simp [zeroP]
end Go.Proofs.YtkijoddconipoaaGreatDoor
