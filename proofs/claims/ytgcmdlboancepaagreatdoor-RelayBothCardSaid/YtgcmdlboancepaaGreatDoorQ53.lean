/- . -/
import Derived.Test.YtgcmdlboancepaaGreatDoorCards
import Derived.Test.YtgcmdlboancepaaGreatDoorTie
import Derived.Test.YtgcmdlboancepaaGreatDoorQ17
import Derived.Test.YtgcmdlboancepaaGreatDoorQ52
namespace Go.Proofs.YtgcmdlboancepaaGreatDoor.relayBoth
open Go Go.ChangeShapes Go.WideShapes Go.ChangeAt Go.RowKit Tw Av Go.Proofs.Z
set_option maxRecDepth 100000
def wargs:Array Value:=#[((.slice none 0 0):Value)]
theorem params:Tryz.f4.params.toList=[22]:=rfl
theorem laid_met (os:Os):laidMet Tryz.prog Rows.relayBothRow.laid ((FV os).forCall (λ_ _=>0) ⟨#[],wargs,[]⟩).memory:=
 laidMet_of_run' 8 (by kernel_rfl) (by kernel_rfl)
theorem reads (os:Os){H:Type}(enc:TypeId × Value->H):∃ places,DataW.whole enc Tryz.prog ((FV os).forCall (λ_ _=>0) ⟨#[],wargs,[]⟩).memory Tryz.f4.params.toList Rows.relayBothSpec.vars false wargs.toList 8=some ([.nil],[],places):=
 ⟨[],by kernel_rfl⟩
theorem lifted (os:Os)(started:os.Started)(H:Type)(enc:TypeId × Value->H)(F:Stop.Interp) :
  ReturnsInHanded {} Tryz.checked os 4 .any ((OpenSpec.ofChange Rows.relayBothSpec).preRow enc Tryz.prog Tryz.f4 Rows.relayBothRow.domain false Rows.relayBothRow.laid) (((OpenSpec.ofChange Rows.relayBothSpec).at F).post enc Tryz.prog Tryz.f4 false true false false):=by
 obtain⟨places,hx⟩:=reads os enc
 refine returnsInHanded_of_row (C:=Tryz.checked) (s:=OpenSpec.ofChange Rows.relayBothSpec) own started (by kernel_rfl) Tryz.func4
  (witness_row_at (enc:=enc) (C:=Tryz.checked) false (FV os) wargs rfl (by kernel_rfl) (by kernel_rfl) (by kernel_rfl)
   (OpenSpec.preRow_of_cond 8 hx (by kernel_rfl) (λk hk=>by cases hk) (by kernel_rfl) (laid_met os))) ?_
 intro W base args ds gs before hval hW _ _ _ hL _ _
 exact Lv (tb:=4) rfl (by kernel_rfl) rfl laidOut (by kernel_rfl) (Ii (Ie (P:=Tryz.prog) (t:=22) (Ic (P:=Tryz.prog) (t:=33) (tot:=3) (l:=[(3,0),(3,1),(3,2)]) (by kernel_rfl) (by kernel_rfl) (EZ (o:=0) (tot:=3) (EY (P:=Tryz.prog) (t:=3) (by kernel_rfl)) (k:=1) (by kernel_rfl) (EZ (o:=1) (tot:=3) (EY (P:=Tryz.prog) (t:=3) (by kernel_rfl)) (k:=1) (by kernel_rfl) (EZ (o:=2) (tot:=3) (EY (P:=Tryz.prog) (t:=3) (by kernel_rfl)) (k:=1) (by kernel_rfl) (Ig (tot:=3)))))) (by kernel_rfl) (k:=3) (by kernel_rfl) (by kernel_rfl)) (Ih)) (λds h=>by
  match ds,h with
  | [d0],_=>rfl) (λz hz=>by
   obtain⟨l,_⟩:=z
   exact (a5C (l:=l.map λq=>(q.1,q.2.1,q.2.2.1)) (by rw [List.map_map];rfl)).spec trivial) (Oe hL) hval hW
end Go.Proofs.YtgcmdlboancepaaGreatDoor.relayBoth

