/- . -/
import Derived.JoinedCond
import Derived.SevenTiedAt
import Derived.Test.YtjhnaegpchadiaaGreatDoorN15
namespace Go.Proofs.YtjhnaegpchadiaaGreatDoor
open Go Go.ChangeShapes
theorem Jp:mapsRowed Tryz.pinned.checked.prog=true:=by kernel_rfl
theorem Jo:(Tryz.pinned.checked.prog.stops == [])=true:=by kernel_rfl
theorem Jq:(Tryz.pinned.checked.prog.stopKnobs == [])=true:=by kernel_rfl
theorem Jr:Tryz.pinned.checked.prog.stopsHeard=true:=by kernel_rfl
theorem Js:Tryz.pinned.checked.prog.mayEnter=true:=by kernel_rfl
theorem I7 {a b:Bool}(h:a=true)(g:b=true):(a&&b)=true:=by rw[h,g];rfl
theorem a3i:Tryz.pinned.checked.prog.funcs.any Func.goes=false:=by kernel_rfl
theorem a0D {P:Program}(h:P.funcs.any Func.goes=false)(f:FuncId):P.goes f=false:=by
 have h1:∀ g:FuncId,(P.funcs[g]?).any Func.goes=false:=fun g=>by
  cases hg:P.funcs[g]? with
  | none=>rfl
  | some fn=>
   obtain⟨hlt,he⟩:=Array.getElem?_eq_some_iff.1 hg;cases hb:fn.goes with
   | false=>simp[hb]
   | true=>
    have:P.funcs.any Func.goes=true:=Array.any_eq_true.2 ⟨g,hlt,by rw[he];exact hb⟩;rw[h] at this;cases this
 unfold Program.goes;rw[h,Bool.and_false,Bool.or_false,List.any_eq_false];intro g _;rw[h1];decide
theorem Ey {c:OpenClaim}(hc:c.start=.entering):false=c.goesBy Tryz.pinned.checked.prog:=by
 unfold OpenClaim.goesBy Program.goesAt Program.goesFrom;rw[hc];cases Tryz.pinned.checked.prog.funcNamed c.func with
 | none=>rfl
 | some f=>simp[a0D a3i]
end Go.Proofs.YtjhnaegpchadiaaGreatDoor
