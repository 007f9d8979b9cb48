/- . -/
import Derived.Test.YtjhnaegpchadiaaGreatDoorCards
import Derived.Test.YtjhnaegpchadiaaGreatDoorTie
import Derived.Test.YtjhnaegpchadiaaGreatDoorN16
import Derived.Test.YtjhnaegpchadiaaGreatDoorN46
namespace Go.Proofs.YtjhnaegpchadiaaGreatDoor.relayKnows
open Go Go.ChangeShapes Go.WideShapes Go.ChangeAt Go.RowKit Tw Av
set_option maxRecDepth 100000
def wargs:Array Value:=#[((.int .i64 0):Value),((.slice none 0 0):Value)]
theorem params:Tryz.f3.params.toList=[3,22]:=rfl
theorem laid_met (os:Os):laidMet Tryz.prog Rows.relayKnowsRow.laid ((AB os).forCall (fun _ _=>0) ⟨#[],wargs,[]⟩).memory:=
 laidMet_of_run' 8 (by kernel_rfl) (by kernel_rfl)
theorem reads (os:Os){H:Type}(enc:TypeId × Value->H):∃ places,DataW.whole enc Tryz.prog ((AB os).forCall (fun _ _=>0) ⟨#[],wargs,[]⟩).memory Tryz.f3.params.toList Rows.relayKnowsSpec.vars false wargs.toList 8=some ([(.lit (.int .i64 0)),.nil],[],places):=
 ⟨[],by kernel_rfl⟩
theorem lifted (os:Os)(started:os.Started)(H:Type)(enc:TypeId × Value->H)(F:Stop.Interp) :
  ReturnsInHanded {} Tryz.checked os 3 .any ((OpenSpec.ofChange Rows.relayKnowsSpec).preRow enc Tryz.prog Tryz.f3 Rows.relayKnowsRow.domain false Rows.relayKnowsRow.laid) (((OpenSpec.ofChange Rows.relayKnowsSpec).at F).post enc Tryz.prog Tryz.f3 false true false false):=by
 obtain⟨places,hx⟩:=reads os enc
 refine returnsInHanded_of_row (C:=Tryz.checked) (s:=OpenSpec.ofChange Rows.relayKnowsSpec) own started (by kernel_rfl) Tryz.func3
  (witness_row_at (enc:=enc) (C:=Tryz.checked) false (AB os) wargs rfl (by kernel_rfl) (by kernel_rfl) (by kernel_rfl)
   (OpenSpec.preRow_of_cond 8 hx (by kernel_rfl) (fun k hk=>by cases hk) (by kernel_rfl) (laid_met os))) ?_
 intro W base args ds gs before hval hW _ _ _ hL _ _
 exact Dn (tb:=4) rfl (by kernel_rfl) rfl laidOut (by kernel_rfl) (PS (Ao (P:=Tryz.prog) (t:=3) (by kernel_rfl)) (PS (Tx (P:=Tryz.prog) (t:=22) (Ao (P:=Tryz.prog) (t:=3) (by kernel_rfl)) (by kernel_rfl) (k:=1) (by kernel_rfl) (by kernel_rfl)) (Ap))) (fun ds h=>by
  match ds,h with
  | [d0,d1],_=>rfl) (fun z hz=>by
   obtain⟨m,l,_⟩:=z
   exact (a1g (many:=m) (times:=l) rfl).spec trivial) (Fa hL) hval hW
end Go.Proofs.YtjhnaegpchadiaaGreatDoor.relayKnows
