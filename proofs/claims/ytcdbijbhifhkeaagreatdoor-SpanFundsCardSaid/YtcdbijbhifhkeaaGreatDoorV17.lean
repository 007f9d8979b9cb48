/- . -/
import Derived.JoinedCond
import Derived.SevenTiedAt
import Derived.Test.YtcdbijbhifhkeaaGreatDoorV16
namespace Go.Proofs.YtcdbijbhifhkeaaGreatDoor
open Go Go.ChangeShapes Go.Proofs.Z
theorem KX:mapsRowed Tryz.pinned.checked.prog=true:=by kernel_rfl
theorem KW:(Tryz.pinned.checked.prog.stops == [])=true:=by kernel_rfl
theorem KY:(Tryz.pinned.checked.prog.stopKnobs == [])=true:=by kernel_rfl
theorem KZ:Tryz.pinned.checked.prog.stopsHeard=true:=by kernel_rfl
theorem LA:Tryz.pinned.checked.prog.mayEnter=true:=by kernel_rfl
theorem o9 {a b:Bool}(h:a=true)(g:b=true):(a&&b)=true:=by rw[h,g];rfl
theorem b0G:Tryz.pinned.checked.prog.funcs.any Func.goes=false:=by kernel_rfl
theorem a7G {P:Program}(h:P.funcs.any Func.goes=false)(f:FuncId):P.goes f=false:=by
 have h1:∀ g:FuncId,(P.funcs[g]?).any Func.goes=false:=λg=>by
  cases hg:P.funcs[g]? with
  | none=>rfl
  | some fn=>
   obtain⟨hlt,he⟩:=Array.getElem?_eq_some_iff.1 hg;cases hb:fn.goes with
   | false=>simp[hb]
   | true=>
    have:P.funcs.any Func.goes=true:=Array.any_eq_true.2 ⟨g,hlt,by rw[he];exact hb⟩;rw[h] at this;cases this
 unfold Program.goes;rw[h,Bool.and_false,Bool.or_false,List.any_eq_false];intro g _;rw[h1];decide
theorem KF {c:OpenClaim}(hc:c.start=.entering):false=c.goesBy Tryz.pinned.checked.prog:=by
 unfold OpenClaim.goesBy Program.goesAt Program.goesFrom;rw[hc];cases Tryz.pinned.checked.prog.funcNamed c.func with
 | none=>rfl
 | some f=>simp[a7G b0G]
end Go.Proofs.YtcdbijbhifhkeaaGreatDoor
