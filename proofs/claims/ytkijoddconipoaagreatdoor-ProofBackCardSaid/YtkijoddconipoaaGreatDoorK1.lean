/- Facts on the whole translation. -/
import Derived.JoinedCond
import Derived.Test.YtkijoddconipoaaGreatDoorP1
import Derived.Test.YtkijoddconipoaaGreatDoorP2
import Derived.Test.YtkijoddconipoaaGreatDoorP3
import Derived.Test.YtkijoddconipoaaGreatDoorP4
import Derived.Test.YtkijoddconipoaaGreatDoorP5
import Derived.Test.YtkijoddconipoaaGreatDoorQ1
import Derived.Test.YtkijoddconipoaaGreatDoorQ2
namespace Go.Proofs.YtkijoddconipoaaGreatDoor
open Go Go.ChangeShapes
theorem cl_rowed : mapsRowed Tryz.pinned.checked.prog = true := by kernel_rfl
theorem cl_stops : (Tryz.pinned.checked.prog.stops == []) = true := by kernel_rfl
theorem cl_knobs : (Tryz.pinned.checked.prog.stopKnobs == []) = true := by kernel_rfl
theorem cl_heard : Tryz.pinned.checked.prog.stopsHeard = true := by kernel_rfl
theorem cl_enter : Tryz.pinned.checked.prog.mayEnter = true := by kernel_rfl
theorem andI {a b : Bool} (h : a = true) (g : b = true) : (a && b) = true := by rw [h, g]; rfl
end Go.Proofs.YtkijoddconipoaaGreatDoor
