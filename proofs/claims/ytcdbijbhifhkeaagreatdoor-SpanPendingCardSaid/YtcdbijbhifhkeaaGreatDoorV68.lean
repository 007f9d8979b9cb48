/- . -/
import Derived.Test.YtcdbijbhifhkeaaGreatDoorV66
import Derived.Test.YtcdbijbhifhkeaaGreatDoorV67
namespace Go.Proofs.YtcdbijbhifhkeaaGreatDoor.spanPending
open Go Go.ChangeShapes Go.WideShapes Go.ChangeAt Go.RowKit Tw Av Go.Proofs.Z
set_option maxRecDepth 100000
theorem said:Rows.SpanPendingSaid:=
 OpenClaim.holds_of_cond 5 Tryz.f5 rfl rfl rfl rfl rfl rfl rfl ⟨rfl,rfl,rfl,rfl,rfl⟩ rfl rfl rfl rfl rfl (by kernel_rfl) Tryz.func5 closed
  (of_decide_eq_true (by kernel_rfl)) (by unfold Func.isWrapper;first|(rw [if_pos (by decide +kernel)];kernel_rfl)|(rw [if_neg (by decide +kernel)];exact⟨rfl,rfl⟩))
  (λos started H enc _ F=>by rw [OpenClaim.pre_eq_preRow];exact lifted os started H enc F)
theorem plain (f : FuncId) (fn : Func) (hf : Tryz.pinned.checked.prog.funcNamed "twinspan/twinspanlaw22.SpanPending" = some f) (hfn : Tryz.pinned.checked.prog.funcs[f]? = some fn) :
  false=Tryz.pinned.checked.prog.looks []/\∀ (j:Nat) t,fn.params[j]?=some t->Tryz.pinned.checked.prog.wantsStandIn t=false:=by
 obtain rfl : f = 5 := Option.some.inj ((show Tryz.prog.funcNamed "twinspan/twinspanlaw22.SpanPending" = some 5 by kernel_rfl).symm.trans hf) |>.symm
 obtain rfl:fn=Tryz.f5:=(Option.some.inj (Tryz.func5.symm.trans hfn)).symm
 refine⟨by kernel_rfl,λj t ht=>?_⟩
 have hall:Tryz.f5.params.toList.all (λt=>!Tryz.prog.wantsStandIn t)=true:=by kernel_rfl
 have:=List.all_eq_true.1 hall t (by simpa using Array.mem_of_getElem? ht)
 show Tryz.prog.wantsStandIn t=false
 simpa using this
theorem card:Rows.SpanPendingCardSaid:=
 Claim7.holds_tied_plain_at .later [] _ _ _ _ said (λ_ h=>by cases h) (by kernel_rfl) (λ_ h=>by cases h) spanPending_row_tie rfl ⟨rfl,rfl⟩ (by kernel_rfl) rfl plain (KF rfl)
end Go.Proofs.YtcdbijbhifhkeaaGreatDoor.spanPending
