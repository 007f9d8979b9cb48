/- . -/
import Derived.Test.YtcdbijbhifhkeaaGreatDoorCards
import Derived.Test.YtcdbijbhifhkeaaGreatDoorTie
import Derived.Test.YtcdbijbhifhkeaaGreatDoorV17
import Derived.Test.YtcdbijbhifhkeaaGreatDoorV65
namespace Go.Proofs.YtcdbijbhifhkeaaGreatDoor.spanPending
open Go Go.ChangeShapes Go.WideShapes Go.ChangeAt Go.RowKit Tw Av Go.Proofs.Z
set_option maxRecDepth 100000
def wargs:Array Value:=#[((.slice none 0 0):Value)]
theorem params:Tryz.f5.params.toList=[42]:=rfl
theorem laid_met (os:Os):laidMet Tryz.prog Rows.spanPendingRow.laid ((lY os).forCall (λ_ _=>0) ⟨#[],wargs,[]⟩).memory:=
 laidMet_of_run' 8 (by kernel_rfl) (by kernel_rfl)
theorem reads (os:Os){H:Type}(enc:TypeId × Value->H):∃ places,DataW.whole enc Tryz.prog ((lY os).forCall (λ_ _=>0) ⟨#[],wargs,[]⟩).memory Tryz.f5.params.toList Rows.spanPendingSpec.vars false wargs.toList 8=some ([.nil],[],places):=
 ⟨[],by kernel_rfl⟩
theorem lifted (os:Os)(started:os.Started)(H:Type)(enc:TypeId × Value->H)(F:Stop.Interp) :
  ReturnsInHanded {} Tryz.checked os 5 .any ((OpenSpec.ofChange Rows.spanPendingSpec).preRow enc Tryz.prog Tryz.f5 Rows.spanPendingRow.domain false Rows.spanPendingRow.laid) (((OpenSpec.ofChange Rows.spanPendingSpec).at F).post enc Tryz.prog Tryz.f5 false true false false):=by
 obtain⟨places,hx⟩:=reads os enc
 refine returnsInHanded_of_row (C:=Tryz.checked) (s:=OpenSpec.ofChange Rows.spanPendingSpec) own started (by kernel_rfl) Tryz.func5
  (witness_row_at (enc:=enc) (C:=Tryz.checked) false (lY os) wargs rfl (by kernel_rfl) (by kernel_rfl) (by kernel_rfl)
   (OpenSpec.preRow_of_cond 8 hx (by kernel_rfl) (λk hk=>by cases hk) (by kernel_rfl) (laid_met os))) ?_
 intro W base args ds gs before hval hW _ _ _ hL _ _
 exact KC (tb:=4) rfl (by kernel_rfl) rfl laidOut (by kernel_rfl) (FM (CW (P:=Tryz.prog) (t:=42) (RO (P:=Tryz.prog) (t:=28) (tot:=7) (l:=[(3,0),(3,1),(3,2),(3,3),(3,4),(26,5),(9,6)]) (by kernel_rfl) (by kernel_rfl) (bR (o:=0) (tot:=7) (fO (P:=Tryz.prog) (t:=3) (by kernel_rfl)) (k:=1) (by kernel_rfl) (bR (o:=1) (tot:=7) (fO (P:=Tryz.prog) (t:=3) (by kernel_rfl)) (k:=1) (by kernel_rfl) (bR (o:=2) (tot:=7) (fO (P:=Tryz.prog) (t:=3) (by kernel_rfl)) (k:=1) (by kernel_rfl) (bR (o:=3) (tot:=7) (fO (P:=Tryz.prog) (t:=3) (by kernel_rfl)) (k:=1) (by kernel_rfl) (bR (o:=4) (tot:=7) (fO (P:=Tryz.prog) (t:=3) (by kernel_rfl)) (k:=1) (by kernel_rfl) (bR (o:=5) (tot:=7) (CW (P:=Tryz.prog) (t:=26) (RQ (P:=Tryz.prog) (t:=4) (by kernel_rfl)) (by kernel_rfl) (k:=1) (by kernel_rfl) (by kernel_rfl)) (k:=1) (by kernel_rfl) (bR (o:=6) (tot:=7) (RP (P:=Tryz.prog) (t:=9) (by kernel_rfl)) (k:=1) (by kernel_rfl) (RU (tot:=7)))))))))) (by kernel_rfl) (k:=7) (by kernel_rfl) (by kernel_rfl)) (JI)) (λds h=>by
  match ds,h with
  | [d0],_=>rfl) (λz hz=>by
   obtain⟨l,_⟩:=z
   exact (a8w (l:=l.map λq=>(⟨q.1,q.2.1,q.2.2.1,q.2.2.2.1,q.2.2.2.2.1,q.2.2.2.2.2.1,q.2.2.2.2.2.2.1⟩:PlX)) (by rw [List.map_map];rfl)).spec trivial) (KG hL) hval hW
end Go.Proofs.YtcdbijbhifhkeaaGreatDoor.spanPending
