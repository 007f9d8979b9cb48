/- . -/
import Derived.Test.YtjhnaegpchadiaaGreatDoorCards
import Derived.Test.YtjhnaegpchadiaaGreatDoorTie
import Derived.Test.YtjhnaegpchadiaaGreatDoorN16
import Derived.Test.YtjhnaegpchadiaaGreatDoorN42
namespace Go.Proofs.YtjhnaegpchadiaaGreatDoor.relayNil
open Go Go.ChangeShapes Go.WideShapes Go.ChangeAt Go.RowKit Tw Av
set_option maxRecDepth 100000
def wargs:Array Value:=#[((.string ⟨#[]⟩):Value)]
theorem params:Tryz.f4.params.toList=[9]:=rfl
theorem laid_met (os:Os):laidMet Tryz.prog Rows.relayNilRow.laid ((AB os).forCall (fun _ _=>0) ⟨#[],wargs,[]⟩).memory:=
 laidMet_of_run' 8 (by kernel_rfl) (by kernel_rfl)
theorem reads (os:Os){H:Type}(enc:TypeId × Value->H):∃ places,DataW.whole enc Tryz.prog ((AB os).forCall (fun _ _=>0) ⟨#[],wargs,[]⟩).memory Tryz.f4.params.toList Rows.relayNilSpec.vars false wargs.toList 8=some ([(.lit (.string []))],[],places):=
 ⟨[],by kernel_rfl⟩
theorem lifted (os:Os)(started:os.Started)(H:Type)(enc:TypeId × Value->H)(F:Stop.Interp) :
  ReturnsInHanded {} Tryz.checked os 4 .any ((OpenSpec.ofChange Rows.relayNilSpec).preRow enc Tryz.prog Tryz.f4 Rows.relayNilRow.domain false Rows.relayNilRow.laid) (((OpenSpec.ofChange Rows.relayNilSpec).at F).post enc Tryz.prog Tryz.f4 false true false false):=by
 obtain⟨places,hx⟩:=reads os enc
 refine returnsInHanded_of_row (C:=Tryz.checked) (s:=OpenSpec.ofChange Rows.relayNilSpec) own started (by kernel_rfl) Tryz.func4
  (witness_row_at (enc:=enc) (C:=Tryz.checked) false (AB os) wargs rfl (by kernel_rfl) (by kernel_rfl) (by kernel_rfl)
   (OpenSpec.preRow_of_cond 8 hx (by kernel_rfl) (fun k hk=>by cases hk) (by kernel_rfl) (laid_met os))) ?_
 intro W base args ds gs before hval hW _ _ _ hL _ _
 exact Dn (tb:=4) rfl (by kernel_rfl) rfl laidOut (by kernel_rfl) (PS (Tv (P:=Tryz.prog) (t:=9) (by kernel_rfl)) (Ap)) (fun ds h=>by
  match ds,h with
  | [d0],_=>rfl) (fun z hz=>by
   obtain⟨i,_⟩:=z
   exact (a1f (i0:=i)).spec trivial) (Fa hL) hval hW
end Go.Proofs.YtjhnaegpchadiaaGreatDoor.relayNil
