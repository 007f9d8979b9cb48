/- Law CoreAsks: maps' and proofs' answers are ref18's. Conditions: none. -/
import Derived.Test.YtlmcongmglfaeaaGreatDoorD48
import Derived.Test.YtlmcongmglfaeaaGreatDoorD49
namespace Go.Proofs.YtlmcongmglfaeaaGreatDoor.coreAsks
open Go Go.RowKit Tw Av
set_option maxRecDepth 100000
theorem said:Rows.CoreAsksSaid:=
 OpenClaim.holds_of_cond 4 Tryz.f4 rfl rfl rfl rfl rfl rfl rfl ⟨rfl,rfl,rfl,rfl,rfl⟩ rfl rfl rfl rfl rfl (by kernel_rfl) Tryz.func4 closed
  (of_decide_eq_true (by kernel_rfl)) (by unfold Func.isWrapper;first|(rw [if_pos (by decide +kernel)];kernel_rfl)|(rw [if_neg (by decide +kernel)];exact⟨rfl,rfl⟩))
  (fun os started H enc _ F=>by rw [OpenClaim.pre_eq_preRow];exact lifted os started H enc F)
local notation "Q"=>Tryz.pinned.checked.prog
theorem plain (f:FuncId) (fn:Func) (hf:(Q).funcNamed "twinspan/twinspanlaw18.CoreAsks" = some f) (hfn:(Q).funcs[f]? = some fn) :
  false=(Q).looks []/\∀ (j:Nat) t,fn.params[j]?=some t->(Q).wantsStandIn t=false:=by
 obtain rfl:4=f:=Option.some.inj ((by kernel_rfl:Tryz.prog.funcNamed "twinspan/twinspanlaw18.CoreAsks"=some 4).symm.trans hf)
 obtain rfl:Tryz.f4=fn:=Option.some.inj (Tryz.func4.symm.trans hfn)
 refine⟨by kernel_rfl,fun j t ht=>?_⟩
 have hall:Tryz.f4.params.toList.all (fun t=>!Tryz.prog.wantsStandIn t)=true:=by kernel_rfl
 have:=List.all_eq_true.1 hall t (by simpa using Array.mem_of_getElem? ht)
 show Tryz.prog.wantsStandIn t=false
 simpa using this
theorem card:Rows.CoreAsksCardSaid:=
 Claim7.holds_tied_plain_at .later [] _ _ _ _ said (fun _ h=>by cases h) (by kernel_rfl) (fun _ h=>by cases h) coreAsks_row_tie rfl ⟨rfl,rfl⟩ (by kernel_rfl) rfl plain (goes_row rfl)
end Go.Proofs.YtlmcongmglfaeaaGreatDoor.coreAsks
