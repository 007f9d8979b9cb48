/- ChainWhole: the walk, lifted to the row. -/
import Derived.Test.YtndhpgclmgpmoaaGreatDoorCards
import Derived.Test.YtndhpgclmgpmoaaGreatDoorTie
import Derived.SevenTiedAt
import Derived.Test.YtndhpgclmgpmoaaGreatDoorA20
import Derived.Test.YtndhpgclmgpmoaaGreatDoorA21
import Derived.Test.YtndhpgclmgpmoaaGreatDoorA66
namespace Go.Proofs.YtndhpgclmgpmoaaGreatDoor.chainWhole
open Go Go.ChangeShapes Go.WideShapes Go.ChangeAt Go.RowKit Tw Av
set_option maxRecDepth 100000
def wargs:Array Value:=#[((.slice none 0 0):Value),((.int .i64 0):Value),((.agg #[(.int .i64 0),(.int .i64 0),(.int .i64 0),(.int .i64 0),(.slice none 0 0)]):Value)]
theorem params:Tryz.f8.params.toList=[52,3,68]:=rfl
theorem laid_met (os:Os):laidMet Tryz.prog Rows.chainWholeRow.laid ((laidWorldU os).forCall (fun _ _=>0) ⟨#[],wargs,[]⟩).memory:=
 laidMet_of_run' 8 (by kernel_rfl) (by kernel_rfl)
theorem reads (os:Os){H:Type}(enc:TypeId × Value->H):∃ places,DataW.whole enc Tryz.prog ((laidWorldU os).forCall (fun _ _=>0) ⟨#[],wargs,[]⟩).memory Tryz.f8.params.toList Rows.chainWholeSpec.vars false wargs.toList 8=some ([.nil,(.lit (.int .i64 0)),(.agg [(.lit (.int .i64 0)),(.lit (.int .i64 0)),(.lit (.int .i64 0)),(.lit (.int .i64 0)),.nil])],[],places):=
 ⟨[],by kernel_rfl⟩
theorem lifted (os:Os)(started:os.Started)(H:Type)(enc:TypeId × Value->H)(F:Stop.Interp) :
  ReturnsInHanded {} Tryz.checked os 8 .any ((OpenSpec.ofChange Rows.chainWholeSpec).preRow enc Tryz.prog Tryz.f8 Rows.chainWholeRow.domain false Rows.chainWholeRow.laid) (((OpenSpec.ofChange Rows.chainWholeSpec).at F).post enc Tryz.prog Tryz.f8 false true false false):=by
 obtain⟨places,hx⟩:=reads os enc
 refine returnsInHanded_of_row (C:=Tryz.checked) (s:=OpenSpec.ofChange Rows.chainWholeSpec) own started (by kernel_rfl) Tryz.func8
  (witness_row_at (enc:=enc) (C:=Tryz.checked) false (laidWorldU os) wargs rfl (by kernel_rfl) (by kernel_rfl) (by kernel_rfl)
   (OpenSpec.preRow_of_cond 8 hx (by kernel_rfl) (fun k hk=>by cases hk) (by kernel_rfl) (laid_met os))) ?_
 intro W base args ds gs before hval hW _ _ _ hL _ _
 exact law_calls (tb:=4) rfl (by kernel_rfl) rfl laidOut (by kernel_rfl) (rdA_cons (rd_slice (P:=Tryz.prog) (t:=52) (rd_slice (P:=Tryz.prog) (t:=36) (rd_i64 (P:=Tryz.prog) (t:=3) (by kernel_rfl)) (by kernel_rfl) (k:=1) (by kernel_rfl) (by kernel_rfl)) (by kernel_rfl) (k:=1) (by kernel_rfl) (by kernel_rfl)) (rdA_cons (rd_i64 (P:=Tryz.prog) (t:=3) (by kernel_rfl)) (rdA_cons (rd_struct (P:=Tryz.prog) (t:=68) (tot:=5) (l:=[(3,0),(3,1),(3,2),(3,3),(66,4)]) (by kernel_rfl) (by kernel_rfl) (rdS_cons (o:=0) (tot:=5) (rd_i64 (P:=Tryz.prog) (t:=3) (by kernel_rfl)) (k:=1) (by kernel_rfl) (rdS_cons (o:=1) (tot:=5) (rd_i64 (P:=Tryz.prog) (t:=3) (by kernel_rfl)) (k:=1) (by kernel_rfl) (rdS_cons (o:=2) (tot:=5) (rd_i64 (P:=Tryz.prog) (t:=3) (by kernel_rfl)) (k:=1) (by kernel_rfl) (rdS_cons (o:=3) (tot:=5) (rd_i64 (P:=Tryz.prog) (t:=3) (by kernel_rfl)) (k:=1) (by kernel_rfl) (rdS_cons (o:=4) (tot:=5) (rd_slice (P:=Tryz.prog) (t:=66) (rd_bool (P:=Tryz.prog) (t:=4) (by kernel_rfl)) (by kernel_rfl) (k:=1) (by kernel_rfl) (by kernel_rfl)) (k:=1) (by kernel_rfl) (rdS_nil (tot:=5)))))))) (rdA_nil)))) (fun ds h=>by
  match ds,h with
  | [d0,d1,d2],_=>rfl) (fun z hz=>by
   obtain⟨l,n,⟨a,b,c,d,k,_⟩,_⟩:=z
   exact (fnChainWhole (cuts:=l) (left:=n) (k:=a) (n:=b) (torn:=c) (cut:=d) (keep:=k) rfl).spec trivial) (glob_ofU hL) hval hW
end Go.Proofs.YtndhpgclmgpmoaaGreatDoor.chainWhole
