/- ChainFull: the walk, lifted to the row. -/
import Derived.Test.YtndhpgclmgpmoaaGreatDoorCards
import Derived.Test.YtndhpgclmgpmoaaGreatDoorTie
import Derived.SevenTiedAt
import Derived.Test.YtndhpgclmgpmoaaGreatDoorA20
import Derived.Test.YtndhpgclmgpmoaaGreatDoorA21
import Derived.Test.YtndhpgclmgpmoaaGreatDoorA58
namespace Go.Proofs.YtndhpgclmgpmoaaGreatDoor.chainFull
open Go Go.ChangeShapes Go.WideShapes Go.ChangeAt Go.RowKit Tw Av
set_option maxRecDepth 100000
def wargs:Array Value:=#[((.int .i64 0):Value),((.slice none 0 0):Value)]
theorem params:Tryz.f5.params.toList=[3,36]:=rfl
theorem laid_met (os:Os):laidMet Tryz.prog Rows.chainFullRow.laid ((laidWorldU os).forCall (fun _ _=>0) ⟨#[],wargs,[]⟩).memory:=
 laidMet_of_run' 8 (by kernel_rfl) (by kernel_rfl)
theorem reads (os:Os){H:Type}(enc:TypeId × Value->H):∃ places,DataW.whole enc Tryz.prog ((laidWorldU os).forCall (fun _ _=>0) ⟨#[],wargs,[]⟩).memory Tryz.f5.params.toList Rows.chainFullSpec.vars false wargs.toList 8=some ([(.lit (.int .i64 0)),.nil],[],places):=
 ⟨[],by kernel_rfl⟩
theorem lifted (os:Os)(started:os.Started)(H:Type)(enc:TypeId × Value->H)(F:Stop.Interp) :
  ReturnsInHanded {} Tryz.checked os 5 .any ((OpenSpec.ofChange Rows.chainFullSpec).preRow enc Tryz.prog Tryz.f5 Rows.chainFullRow.domain false Rows.chainFullRow.laid) (((OpenSpec.ofChange Rows.chainFullSpec).at F).post enc Tryz.prog Tryz.f5 false true false false):=by
 obtain⟨places,hx⟩:=reads os enc
 refine returnsInHanded_of_row (C:=Tryz.checked) (s:=OpenSpec.ofChange Rows.chainFullSpec) own started (by kernel_rfl) Tryz.func5
  (witness_row_at (enc:=enc) (C:=Tryz.checked) false (laidWorldU os) wargs rfl (by kernel_rfl) (by kernel_rfl) (by kernel_rfl)
   (OpenSpec.preRow_of_cond 8 hx (by kernel_rfl) (fun k hk=>by cases hk) (by kernel_rfl) (laid_met os))) ?_
 intro W base args ds gs before hval hW _ _ _ hL _ _
 exact law_calls (tb:=4) rfl (by kernel_rfl) rfl laidOut (by kernel_rfl) (rdA_cons (rd_i64 (P:=Tryz.prog) (t:=3) (by kernel_rfl)) (rdA_cons (rd_slice (P:=Tryz.prog) (t:=36) (rd_i64 (P:=Tryz.prog) (t:=3) (by kernel_rfl)) (by kernel_rfl) (k:=1) (by kernel_rfl) (by kernel_rfl)) (rdA_nil))) (fun ds h=>by
  match ds,h with
  | [d0,d1],_=>rfl) (fun z hz=>by
   obtain⟨n,l,_⟩:=z
   exact (fnChainFull (sec:=n) (l:=l) rfl).spec trivial) (glob_ofU hL) hval hW
end Go.Proofs.YtndhpgclmgpmoaaGreatDoor.chainFull
