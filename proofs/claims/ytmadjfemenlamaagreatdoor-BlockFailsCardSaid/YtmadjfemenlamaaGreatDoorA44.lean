/- BlockFails: the walk, lifted to the row. -/
import Derived.Test.YtmadjfemenlamaaGreatDoorCards
import Derived.Test.YtmadjfemenlamaaGreatDoorTie
import Derived.SevenTiedAt
import Derived.Test.YtmadjfemenlamaaGreatDoorA19
import Derived.Test.YtmadjfemenlamaaGreatDoorA20
import Derived.Test.YtmadjfemenlamaaGreatDoorA43
namespace Go.Proofs.YtmadjfemenlamaaGreatDoor.blockFails
open Go Go.ChangeShapes Go.WideShapes Go.ChangeAt Go.RowKit Tw Av
set_option maxRecDepth 100000
def wargs:Array Value:=#[((.bool false):Value),((.slice none 0 0):Value)]
theorem params:Tryz.f5.params.toList=[4,28]:=rfl
theorem laid_met (os:Os):laidMet Tryz.prog Rows.blockFailsRow.laid ((laidWorldU os).forCall (fun _ _=>0) ⟨#[],wargs,[]⟩).memory:=
 laidMet_of_run' 8 (by kernel_rfl) (by kernel_rfl)
theorem reads (os:Os){H:Type}(enc:TypeId × Value→H):∃ places,DataW.whole enc Tryz.prog ((laidWorldU os).forCall (fun _ _=>0) ⟨#[],wargs,[]⟩).memory Tryz.f5.params.toList Rows.blockFailsSpec.vars false wargs.toList 8=some ([(.lit (.bool false)),.nil],[],places):=
 ⟨[],by kernel_rfl⟩
theorem lifted (os:Os)(started:os.Started)(H:Type)(enc:TypeId × Value→H)(F:Stop.Interp) :
  ReturnsInHanded {} Tryz.checked os 5 .any ((OpenSpec.ofChange Rows.blockFailsSpec).preRow enc Tryz.prog Tryz.f5 Rows.blockFailsRow.domain false Rows.blockFailsRow.laid) (((OpenSpec.ofChange Rows.blockFailsSpec).at F).post enc Tryz.prog Tryz.f5 false true false false):=by
 obtain⟨places,hx⟩:=reads os enc
 refine returnsInHanded_of_row (C:=Tryz.checked) (s:=OpenSpec.ofChange Rows.blockFailsSpec) own started (by kernel_rfl) Tryz.func5
  (witness_row_at (enc:=enc) (C:=Tryz.checked) false (laidWorldU os) wargs rfl (by kernel_rfl) (by kernel_rfl) (by kernel_rfl)
   (OpenSpec.preRow_of_cond 8 hx (by kernel_rfl) (fun k hk=>by cases hk) (by kernel_rfl) (laid_met os))) ?_
 intro W base args ds gs before hval hW _ _ _ hL _ _
 exact law_calls (tb:=4) rfl (by kernel_rfl) rfl laidOut (by kernel_rfl) (rdA_cons (rd_bool (P:=Tryz.prog) (t:=4) (by kernel_rfl)) (rdA_cons (rd_slice (P:=Tryz.prog) (t:=28) (rd_str (P:=Tryz.prog) (t:=9) (by kernel_rfl)) (by kernel_rfl) (k:=1) (by kernel_rfl) (by kernel_rfl)) (rdA_nil))) (fun ds h=>by
  match ds,h with
  | [d0,d1],_=>rfl) (fun z hz=>by
   obtain⟨o,l,_⟩:=z
   exact (fnBlockFails (hx:=(⟨rfl⟩:Strs (l.map fun s=>str s) l))).spec trivial) (glob_ofU hL) hval hW
end Go.Proofs.YtmadjfemenlamaaGreatDoor.blockFails
