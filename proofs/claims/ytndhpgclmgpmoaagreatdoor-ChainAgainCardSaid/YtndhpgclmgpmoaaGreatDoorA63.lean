/- ChainAgain: the walk, lifted to the row. -/
import Derived.Test.YtndhpgclmgpmoaaGreatDoorCards
import Derived.Test.YtndhpgclmgpmoaaGreatDoorTie
import Derived.SevenTiedAt
import Derived.Test.YtndhpgclmgpmoaaGreatDoorA20
import Derived.Test.YtndhpgclmgpmoaaGreatDoorA21
import Derived.Test.YtndhpgclmgpmoaaGreatDoorA62
namespace Go.Proofs.YtndhpgclmgpmoaaGreatDoor.chainAgain
open Go Go.ChangeShapes Go.WideShapes Go.ChangeAt Go.RowKit Tw Av
set_option maxRecDepth 100000
def wargs:Array Value:=#[((.slice none 0 0):Value),((.slice none 0 0):Value)]
theorem params:Tryz.f6.params.toList=[52,36]:=rfl
theorem laid_met (os:Os):laidMet Tryz.prog Rows.chainAgainRow.laid ((laidWorldU os).forCall (fun _ _=>0) ⟨#[],wargs,[]⟩).memory:=
 laidMet_of_run' 8 (by kernel_rfl) (by kernel_rfl)
theorem reads (os:Os){H:Type}(enc:TypeId × Value->H):∃ places,DataW.whole enc Tryz.prog ((laidWorldU os).forCall (fun _ _=>0) ⟨#[],wargs,[]⟩).memory Tryz.f6.params.toList Rows.chainAgainSpec.vars false wargs.toList 8=some ([.nil,.nil],[],places):=
 ⟨[],by kernel_rfl⟩
theorem lifted (os:Os)(started:os.Started)(H:Type)(enc:TypeId × Value->H)(F:Stop.Interp) :
  ReturnsInHanded {} Tryz.checked os 6 .any ((OpenSpec.ofChange Rows.chainAgainSpec).preRow enc Tryz.prog Tryz.f6 Rows.chainAgainRow.domain false Rows.chainAgainRow.laid) (((OpenSpec.ofChange Rows.chainAgainSpec).at F).post enc Tryz.prog Tryz.f6 false true false false):=by
 obtain⟨places,hx⟩:=reads os enc
 refine returnsInHanded_of_row (C:=Tryz.checked) (s:=OpenSpec.ofChange Rows.chainAgainSpec) own started (by kernel_rfl) Tryz.func6
  (witness_row_at (enc:=enc) (C:=Tryz.checked) false (laidWorldU os) wargs rfl (by kernel_rfl) (by kernel_rfl) (by kernel_rfl)
   (OpenSpec.preRow_of_cond 8 hx (by kernel_rfl) (fun k hk=>by cases hk) (by kernel_rfl) (laid_met os))) ?_
 intro W base args ds gs before hval hW _ _ _ hL _ _
 exact law_calls (tb:=4) rfl (by kernel_rfl) rfl laidOut (by kernel_rfl) (rdA_cons (rd_slice (P:=Tryz.prog) (t:=52) (rd_slice (P:=Tryz.prog) (t:=36) (rd_i64 (P:=Tryz.prog) (t:=3) (by kernel_rfl)) (by kernel_rfl) (k:=1) (by kernel_rfl) (by kernel_rfl)) (by kernel_rfl) (k:=1) (by kernel_rfl) (by kernel_rfl)) (rdA_cons (rd_slice (P:=Tryz.prog) (t:=36) (rd_i64 (P:=Tryz.prog) (t:=3) (by kernel_rfl)) (by kernel_rfl) (k:=1) (by kernel_rfl) (by kernel_rfl)) (rdA_nil))) (fun ds h=>by
  match ds,h with
  | [d0,d1],_=>rfl) (fun z hz=>by
   obtain⟨l,a,_⟩:=z
   exact (fnChainAgain (cuts:=l) (again:=a) rfl rfl).spec trivial) (glob_ofU hL) hval hW
end Go.Proofs.YtndhpgclmgpmoaaGreatDoor.chainAgain
