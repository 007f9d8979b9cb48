/- . -/
import Derived.Test.YtocpacdnjbjjmaaGreatDoorCards
import Derived.Test.YtocpacdnjbjjmaaGreatDoorTie
import Derived.Test.YtocpacdnjbjjmaaGreatDoorS19
import Derived.Test.YtocpacdnjbjjmaaGreatDoorS44
namespace Go.Proofs.YtocpacdnjbjjmaaGreatDoor.chainHeaders
open Go Go.ChangeShapes Go.WideShapes Go.ChangeAt Go.RowKit Tw Av
set_option maxRecDepth 100000
def wargs:Array Value:=#[((.slice none 0 0):Value),((.int .i64 0):Value)]
theorem params:Tryz.f3.params.toList=[22,3]:=rfl
theorem laid_met (os:Os):laidMet Tryz.prog Rows.chainHeadersRow.laid ((BP os).forCall (fun _ _=>0) ⟨#[],wargs,[]⟩).memory:=
 laidMet_of_run' 8 (by kernel_rfl) (by kernel_rfl)
theorem reads (os:Os){H:Type}(enc:TypeId × Value->H):∃ places,DataW.whole enc Tryz.prog ((BP os).forCall (fun _ _=>0) ⟨#[],wargs,[]⟩).memory Tryz.f3.params.toList Rows.chainHeadersSpec.vars false wargs.toList 8=some ([.nil,(.lit (.int .i64 0))],[],places):=
 ⟨[],by kernel_rfl⟩
theorem lifted (os:Os)(started:os.Started)(H:Type)(enc:TypeId × Value->H)(F:Stop.Interp) :
  ReturnsInHanded {} Tryz.checked os 3 .any ((OpenSpec.ofChange Rows.chainHeadersSpec).preRow enc Tryz.prog Tryz.f3 Rows.chainHeadersRow.domain false Rows.chainHeadersRow.laid) (((OpenSpec.ofChange Rows.chainHeadersSpec).at F).post enc Tryz.prog Tryz.f3 false true false false):=by
 obtain⟨places,hx⟩:=reads os enc
 refine returnsInHanded_of_row (C:=Tryz.checked) (s:=OpenSpec.ofChange Rows.chainHeadersSpec) own started (by kernel_rfl) Tryz.func3
  (witness_row_at (enc:=enc) (C:=Tryz.checked) false (BP os) wargs rfl (by kernel_rfl) (by kernel_rfl) (by kernel_rfl)
   (OpenSpec.preRow_of_cond 8 hx (by kernel_rfl) (fun k hk=>by cases hk) (by kernel_rfl) (laid_met os))) ?_
 intro W base args ds gs before hval hW _ _ _ hL _ _
 exact Gh (tb:=4) rfl (by kernel_rfl) rfl laidOut (by kernel_rfl) (KU (KS (P:=Tryz.prog) (t:=22) (KS (P:=Tryz.prog) (t:=37) (xK (P:=Tryz.prog) (t:=3) (by kernel_rfl)) (by kernel_rfl) (k:=1) (by kernel_rfl) (by kernel_rfl)) (by kernel_rfl) (k:=1) (by kernel_rfl) (by kernel_rfl)) (KU (xK (P:=Tryz.prog) (t:=3) (by kernel_rfl)) (Da))) (fun ds h=>by
  match ds,h with
  | [d0,d1],_=>rfl) (fun z hz=>by
   obtain⟨l,h,_⟩:=z
   exact (a4J (cuts:=l) (ht:=h) rfl).spec trivial) (Ii hL) hval hW
end Go.Proofs.YtocpacdnjbjjmaaGreatDoor.chainHeaders
