/- . -/
import Derived.Test.YtocpacdnjbjjmaaGreatDoorCards
import Derived.Test.YtocpacdnjbjjmaaGreatDoorTie
import Derived.Test.YtocpacdnjbjjmaaGreatDoorS19
import Derived.Test.YtocpacdnjbjjmaaGreatDoorS48
namespace Go.Proofs.YtocpacdnjbjjmaaGreatDoor.chainPlays
open Go Go.ChangeShapes Go.WideShapes Go.ChangeAt Go.RowKit Tw Av
set_option maxRecDepth 100000
def wargs:Array Value:=#[((.int .i64 0):Value),((.slice none 0 0):Value)]
theorem params:Tryz.f4.params.toList=[3,67]:=rfl
theorem laid_met (os:Os):laidMet Tryz.prog Rows.chainPlaysRow.laid ((BP os).forCall (fun _ _=>0) ⟨#[],wargs,[]⟩).memory:=
 laidMet_of_run' 8 (by kernel_rfl) (by kernel_rfl)
theorem reads (os:Os){H:Type}(enc:TypeId × Value->H):∃ places,DataW.whole enc Tryz.prog ((BP os).forCall (fun _ _=>0) ⟨#[],wargs,[]⟩).memory Tryz.f4.params.toList Rows.chainPlaysSpec.vars false wargs.toList 8=some ([(.lit (.int .i64 0)),.nil],[],places):=
 ⟨[],by kernel_rfl⟩
theorem lifted (os:Os)(started:os.Started)(H:Type)(enc:TypeId × Value->H)(F:Stop.Interp) :
  ReturnsInHanded {} Tryz.checked os 4 .any ((OpenSpec.ofChange Rows.chainPlaysSpec).preRow enc Tryz.prog Tryz.f4 Rows.chainPlaysRow.domain false Rows.chainPlaysRow.laid) (((OpenSpec.ofChange Rows.chainPlaysSpec).at F).post enc Tryz.prog Tryz.f4 false true false false):=by
 obtain⟨places,hx⟩:=reads os enc
 refine returnsInHanded_of_row (C:=Tryz.checked) (s:=OpenSpec.ofChange Rows.chainPlaysSpec) own started (by kernel_rfl) Tryz.func4
  (witness_row_at (enc:=enc) (C:=Tryz.checked) false (BP os) wargs rfl (by kernel_rfl) (by kernel_rfl) (by kernel_rfl)
   (OpenSpec.preRow_of_cond 8 hx (by kernel_rfl) (fun k hk=>by cases hk) (by kernel_rfl) (laid_met os))) ?_
 intro W base args ds gs before hval hW _ _ _ hL _ _
 exact Gh (tb:=4) rfl (by kernel_rfl) rfl laidOut (by kernel_rfl) (KU (xK (P:=Tryz.prog) (t:=3) (by kernel_rfl)) (KU (KS (P:=Tryz.prog) (t:=67) (a0m (P:=Tryz.prog) (t:=70) (tot:=5) (l:=[(3,0),(3,1),(3,2),(3,3),(68,4)]) (by kernel_rfl) (by kernel_rfl) (FC (o:=0) (tot:=5) (xK (P:=Tryz.prog) (t:=3) (by kernel_rfl)) (k:=1) (by kernel_rfl) (FC (o:=1) (tot:=5) (xK (P:=Tryz.prog) (t:=3) (by kernel_rfl)) (k:=1) (by kernel_rfl) (FC (o:=2) (tot:=5) (xK (P:=Tryz.prog) (t:=3) (by kernel_rfl)) (k:=1) (by kernel_rfl) (FC (o:=3) (tot:=5) (xK (P:=Tryz.prog) (t:=3) (by kernel_rfl)) (k:=1) (by kernel_rfl) (FC (o:=4) (tot:=5) (KS (P:=Tryz.prog) (t:=68) (a0o (P:=Tryz.prog) (t:=4) (by kernel_rfl)) (by kernel_rfl) (k:=1) (by kernel_rfl) (by kernel_rfl)) (k:=1) (by kernel_rfl) (a0q (tot:=5)))))))) (by kernel_rfl) (k:=5) (by kernel_rfl) (by kernel_rfl)) (Da))) (fun ds h=>by
  match ds,h with
  | [d0,d1],_=>rfl) (fun z hz=>by
   obtain⟨n,l,_⟩:=z
   exact (a4I (sec:=n) (l:=l.map fun q=>⟨q.1,q.2.1,q.2.2.1,q.2.2.2.1,q.2.2.2.2.1⟩) (by rw [List.map_map];rfl)).spec trivial) (Ii hL) hval hW
end Go.Proofs.YtocpacdnjbjjmaaGreatDoor.chainPlays
