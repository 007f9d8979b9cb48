/- . -/
import Derived.Test.YtcdbijbhifhkeaaGreatDoorCards
import Derived.Test.YtcdbijbhifhkeaaGreatDoorTie
import Derived.Test.YtcdbijbhifhkeaaGreatDoorV17
import Derived.Test.YtcdbijbhifhkeaaGreatDoorV49
namespace Go.Proofs.YtcdbijbhifhkeaaGreatDoor.spanSends
open Go Go.ChangeShapes Go.WideShapes Go.ChangeAt Go.RowKit Tw Av Go.Proofs.Z
set_option maxRecDepth 100000
def wargs:Array Value:=#[((.int .i64 0):Value),((.int .i64 0):Value)]
theorem params:Tryz.f3.params.toList=[3,3]:=rfl
theorem laid_met (os:Os):laidMet Tryz.prog Rows.spanSendsRow.laid ((lY os).forCall (λ_ _=>0) ⟨#[],wargs,[]⟩).memory:=
 laidMet_of_run' 8 (by kernel_rfl) (by kernel_rfl)
theorem reads (os:Os){H:Type}(enc:TypeId × Value->H):∃ places,DataW.whole enc Tryz.prog ((lY os).forCall (λ_ _=>0) ⟨#[],wargs,[]⟩).memory Tryz.f3.params.toList Rows.spanSendsSpec.vars false wargs.toList 8=some ([(.lit (.int .i64 0)),(.lit (.int .i64 0))],[],places):=
 ⟨[],by kernel_rfl⟩
theorem lifted (os:Os)(started:os.Started)(H:Type)(enc:TypeId × Value->H)(F:Stop.Interp) :
  ReturnsInHanded {} Tryz.checked os 3 .any ((OpenSpec.ofChange Rows.spanSendsSpec).preRow enc Tryz.prog Tryz.f3 Rows.spanSendsRow.domain false Rows.spanSendsRow.laid) (((OpenSpec.ofChange Rows.spanSendsSpec).at F).post enc Tryz.prog Tryz.f3 false true false false):=by
 obtain⟨places,hx⟩:=reads os enc
 refine returnsInHanded_of_row (C:=Tryz.checked) (s:=OpenSpec.ofChange Rows.spanSendsSpec) own started (by kernel_rfl) Tryz.func3
  (witness_row_at (enc:=enc) (C:=Tryz.checked) false (lY os) wargs rfl (by kernel_rfl) (by kernel_rfl) (by kernel_rfl)
   (OpenSpec.preRow_of_cond 8 hx (by kernel_rfl) (λk hk=>by cases hk) (by kernel_rfl) (laid_met os))) ?_
 intro W base args ds gs before hval hW _ _ _ hL _ _
 exact KC (tb:=4) rfl (by kernel_rfl) rfl laidOut (by kernel_rfl) (FM (fO (P:=Tryz.prog) (t:=3) (by kernel_rfl)) (FM (fO (P:=Tryz.prog) (t:=3) (by kernel_rfl)) (JI))) (λds h=>by
  match ds,h with
  | [d0,d1],_=>rfl) (λz hz=>by
   obtain⟨n,m,_⟩:=z
   exact (a8m (n:=n) (m:=m)).spec trivial) (KG hL) hval hW
end Go.Proofs.YtcdbijbhifhkeaaGreatDoor.spanSends
