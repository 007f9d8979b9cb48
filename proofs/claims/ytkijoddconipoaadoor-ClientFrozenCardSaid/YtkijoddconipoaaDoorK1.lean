/- Facts on the whole translation. -/
import Derived.JoinedCond
import Derived.Test.YtkijoddconipoaaDoorP1
import Derived.Test.YtkijoddconipoaaDoorP2
import Derived.Test.YtkijoddconipoaaDoorP3
import Derived.Test.YtkijoddconipoaaDoorP4
import Derived.Test.YtkijoddconipoaaDoorQ1
import Derived.Test.YtkijoddconipoaaDoorQ2
namespace Go.Proofs.YtkijoddconipoaaDoor
open Go Go.ChangeShapes
theorem cl_rowed : mapsRowed Tryd.pinned.checked.prog = true := by kernel_rfl
theorem cl_stops : (Tryd.pinned.checked.prog.stops == []) = true := by kernel_rfl
theorem cl_knobs : (Tryd.pinned.checked.prog.stopKnobs == []) = true := by kernel_rfl
theorem cl_heard : Tryd.pinned.checked.prog.stopsHeard = true := by kernel_rfl
theorem cl_enter : Tryd.pinned.checked.prog.mayEnter = true := by kernel_rfl
theorem andI {a b : Bool} (h : a = true) (g : b = true) : (a && b) = true := by rw [h, g]; rfl
end Go.Proofs.YtkijoddconipoaaDoor
