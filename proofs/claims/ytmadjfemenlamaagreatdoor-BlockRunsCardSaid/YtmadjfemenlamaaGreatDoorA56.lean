/- BlockRuns: the walk, lifted to the row. -/
import Derived.Test.YtmadjfemenlamaaGreatDoorCards
import Derived.Test.YtmadjfemenlamaaGreatDoorTie
import Derived.SevenTiedAt
import Derived.Test.YtmadjfemenlamaaGreatDoorA19
import Derived.Test.YtmadjfemenlamaaGreatDoorA20
import Derived.Test.YtmadjfemenlamaaGreatDoorA55
namespace Go.Proofs.YtmadjfemenlamaaGreatDoor.blockRuns
open Go Go.ChangeShapes Go.WideShapes Go.ChangeAt Go.RowKit Tw Av
set_option maxRecDepth 100000
def wargs:Array Value:=#[((.bool false):Value),((.slice none 0 0):Value),((.agg #[(.int .i64 0),(.int .i64 0),(.string ⟨#[]⟩)]):Value)]
theorem params:Tryz.f3.params.toList=[4,22,24]:=rfl
theorem laid_met (os:Os):laidMet Tryz.prog Rows.blockRunsRow.laid ((laidWorldU os).forCall (fun _ _=>0) ⟨#[],wargs,[]⟩).memory:=
 laidMet_of_run' 8 (by kernel_rfl) (by kernel_rfl)
theorem reads (os:Os){H:Type}(enc:TypeId × Value→H):∃ places,DataW.whole enc Tryz.prog ((laidWorldU os).forCall (fun _ _=>0) ⟨#[],wargs,[]⟩).memory Tryz.f3.params.toList Rows.blockRunsSpec.vars false wargs.toList 8=some ([(.lit (.bool false)),.nil,(.agg [(.lit (.int .i64 0)),(.lit (.int .i64 0)),(.lit (.string []))])],[],places):=
 ⟨[],by kernel_rfl⟩
theorem lifted (os:Os)(started:os.Started)(H:Type)(enc:TypeId × Value→H)(F:Stop.Interp) :
  ReturnsInHanded {} Tryz.checked os 3 .any ((OpenSpec.ofChange Rows.blockRunsSpec).preRow enc Tryz.prog Tryz.f3 Rows.blockRunsRow.domain false Rows.blockRunsRow.laid) (((OpenSpec.ofChange Rows.blockRunsSpec).at F).post enc Tryz.prog Tryz.f3 false true false false):=by
 obtain⟨places,hx⟩:=reads os enc
 refine returnsInHanded_of_row (C:=Tryz.checked) (s:=OpenSpec.ofChange Rows.blockRunsSpec) own started (by kernel_rfl) Tryz.func3
  (witness_row_at (enc:=enc) (C:=Tryz.checked) false (laidWorldU os) wargs rfl (by kernel_rfl) (by kernel_rfl) (by kernel_rfl)
   (OpenSpec.preRow_of_cond 8 hx (by kernel_rfl) (fun k hk=>by cases hk) (by kernel_rfl) (laid_met os))) ?_
 intro W base args ds gs before hval hW _ _ _ hL _ _
 exact law_calls (tb:=4) rfl (by kernel_rfl) rfl laidOut (by kernel_rfl) (rdA_cons (rd_bool (P:=Tryz.prog) (t:=4) (by kernel_rfl)) (rdA_cons (rd_slice (P:=Tryz.prog) (t:=22) (rd_struct (P:=Tryz.prog) (t:=32) (tot:=3) (l:=[(3,0),(3,1),(9,2)]) (by kernel_rfl) (by kernel_rfl) (rdS_cons (o:=0) (tot:=3) (rd_i64 (P:=Tryz.prog) (t:=3) (by kernel_rfl)) (k:=1) (by kernel_rfl) (rdS_cons (o:=1) (tot:=3) (rd_i64 (P:=Tryz.prog) (t:=3) (by kernel_rfl)) (k:=1) (by kernel_rfl) (rdS_cons (o:=2) (tot:=3) (rd_str (P:=Tryz.prog) (t:=9) (by kernel_rfl)) (k:=1) (by kernel_rfl) (rdS_nil (tot:=3)))))) (by kernel_rfl) (k:=3) (by kernel_rfl) (by kernel_rfl)) (rdA_cons (rd_struct (P:=Tryz.prog) (t:=24) (tot:=3) (l:=[(3,0),(3,1),(9,2)]) (by kernel_rfl) (by kernel_rfl) (rdS_cons (o:=0) (tot:=3) (rd_i64 (P:=Tryz.prog) (t:=3) (by kernel_rfl)) (k:=1) (by kernel_rfl) (rdS_cons (o:=1) (tot:=3) (rd_i64 (P:=Tryz.prog) (t:=3) (by kernel_rfl)) (k:=1) (by kernel_rfl) (rdS_cons (o:=2) (tot:=3) (rd_str (P:=Tryz.prog) (t:=9) (by kernel_rfl)) (k:=1) (by kernel_rfl) (rdS_nil (tot:=3)))))) (rdA_nil)))) (fun ds h=>by
  match ds,h with
  | [d0,d1,d2],_=>rfl) (fun z hz=>by
   obtain⟨o,l,⟨a,b,c,_⟩,_⟩:=z
   have hE:Spcs (l.map (fun z=>AV.agg 3 [int z.1,int z.2.1,str z.2.2.1])) (l.map fun z=>(⟨z.1,z.2.1,z.2.2.1⟩:Spc)):=⟨by rw [List.map_map];rfl⟩
   exact (fnBlockRuns (hx:=hE)).spec trivial) (glob_ofU hL) hval hW
end Go.Proofs.YtmadjfemenlamaaGreatDoor.blockRuns
