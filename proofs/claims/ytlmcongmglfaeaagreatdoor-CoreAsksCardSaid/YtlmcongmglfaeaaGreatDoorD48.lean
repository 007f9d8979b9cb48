/- CoreAsks: the walk, lifted to the row. -/
import Derived.Test.YtlmcongmglfaeaaGreatDoorCards
import Derived.Test.YtlmcongmglfaeaaGreatDoorTie
import Derived.SevenTiedAt
import Derived.Test.YtlmcongmglfaeaaGreatDoorD20
import Derived.Test.YtlmcongmglfaeaaGreatDoorD21
import Derived.Test.YtlmcongmglfaeaaGreatDoorD47
namespace Go.Proofs.YtlmcongmglfaeaaGreatDoor.coreAsks
open Go Go.ChangeShapes Go.WideShapes Go.ChangeAt Go.RowKit Tw Av
set_option maxRecDepth 100000
def wargs:Array Value:=#[((.bool false):Value),((.slice none 0 0):Value),((.agg #[(.int .i64 0),(.int .i64 0),(.int .i64 0),(.int .i64 0),(.string ⟨#[]⟩),(.string ⟨#[]⟩),(.string ⟨#[]⟩),(.bool false)]):Value)]
theorem params:Tryz.f4.params.toList=[4,22,72]:=rfl
theorem laid_met (os:Os):laidMet Tryz.prog Rows.coreAsksRow.laid ((laidWorldU os).forCall (fun _ _=>0) ⟨#[],wargs,[]⟩).memory:=
 laidMet_of_run' 8 (by kernel_rfl) (by kernel_rfl)
theorem reads (os:Os){H:Type}(enc:TypeId × Value->H):∃ places,DataW.whole enc Tryz.prog ((laidWorldU os).forCall (fun _ _=>0) ⟨#[],wargs,[]⟩).memory Tryz.f4.params.toList Rows.coreAsksSpec.vars false wargs.toList 8=some ([(.lit (.bool false)),.nil,(.agg [(.lit (.int .i64 0)),(.lit (.int .i64 0)),(.lit (.int .i64 0)),(.lit (.int .i64 0)),(.lit (.string [])),(.lit (.string [])),(.lit (.string [])),(.lit (.bool false))])],[],places):=
 ⟨[],by kernel_rfl⟩
theorem lifted (os:Os)(started:os.Started)(H:Type)(enc:TypeId × Value->H)(F:Stop.Interp) :
  ReturnsInHanded {} Tryz.checked os 4 .any ((OpenSpec.ofChange Rows.coreAsksSpec).preRow enc Tryz.prog Tryz.f4 Rows.coreAsksRow.domain false Rows.coreAsksRow.laid) (((OpenSpec.ofChange Rows.coreAsksSpec).at F).post enc Tryz.prog Tryz.f4 false true false false):=by
 obtain⟨places,hx⟩:=reads os enc
 refine returnsInHanded_of_row (C:=Tryz.checked) (s:=OpenSpec.ofChange Rows.coreAsksSpec) own started (by kernel_rfl) Tryz.func4
  (witness_row_at (enc:=enc) (C:=Tryz.checked) false (laidWorldU os) wargs rfl (by kernel_rfl) (by kernel_rfl) (by kernel_rfl)
   (OpenSpec.preRow_of_cond 8 hx (by kernel_rfl) (fun k hk=>by cases hk) (by kernel_rfl) (laid_met os))) ?_
 intro W base args ds gs before hval hW _ _ _ hL _ _
 exact law_calls (tb:=4) rfl (by kernel_rfl) rfl laidOut (by kernel_rfl) (rdA_cons (rd_bool (P:=Tryz.prog) (t:=4) (by kernel_rfl)) (rdA_cons (rd_slice (P:=Tryz.prog) (t:=22) (rd_struct (P:=Tryz.prog) (t:=36) (tot:=6) (l:=[(3,0),(3,1),(3,2),(3,3),(3,4),(3,5)]) (by kernel_rfl) (by kernel_rfl) (rdS_cons (o:=0) (tot:=6) (rd_i64 (P:=Tryz.prog) (t:=3) (by kernel_rfl)) (k:=1) (by kernel_rfl) (rdS_cons (o:=1) (tot:=6) (rd_i64 (P:=Tryz.prog) (t:=3) (by kernel_rfl)) (k:=1) (by kernel_rfl) (rdS_cons (o:=2) (tot:=6) (rd_i64 (P:=Tryz.prog) (t:=3) (by kernel_rfl)) (k:=1) (by kernel_rfl) (rdS_cons (o:=3) (tot:=6) (rd_i64 (P:=Tryz.prog) (t:=3) (by kernel_rfl)) (k:=1) (by kernel_rfl) (rdS_cons (o:=4) (tot:=6) (rd_i64 (P:=Tryz.prog) (t:=3) (by kernel_rfl)) (k:=1) (by kernel_rfl) (rdS_cons (o:=5) (tot:=6) (rd_i64 (P:=Tryz.prog) (t:=3) (by kernel_rfl)) (k:=1) (by kernel_rfl) (rdS_nil (tot:=6))))))))) (by kernel_rfl) (k:=6) (by kernel_rfl) (by kernel_rfl)) (rdA_cons (rd_struct (P:=Tryz.prog) (t:=72) (tot:=8) (l:=[(3,0),(3,1),(3,2),(3,3),(9,4),(9,5),(9,6),(4,7)]) (by kernel_rfl) (by kernel_rfl) (rdS_cons (o:=0) (tot:=8) (rd_i64 (P:=Tryz.prog) (t:=3) (by kernel_rfl)) (k:=1) (by kernel_rfl) (rdS_cons (o:=1) (tot:=8) (rd_i64 (P:=Tryz.prog) (t:=3) (by kernel_rfl)) (k:=1) (by kernel_rfl) (rdS_cons (o:=2) (tot:=8) (rd_i64 (P:=Tryz.prog) (t:=3) (by kernel_rfl)) (k:=1) (by kernel_rfl) (rdS_cons (o:=3) (tot:=8) (rd_i64 (P:=Tryz.prog) (t:=3) (by kernel_rfl)) (k:=1) (by kernel_rfl) (rdS_cons (o:=4) (tot:=8) (rd_str (P:=Tryz.prog) (t:=9) (by kernel_rfl)) (k:=1) (by kernel_rfl) (rdS_cons (o:=5) (tot:=8) (rd_str (P:=Tryz.prog) (t:=9) (by kernel_rfl)) (k:=1) (by kernel_rfl) (rdS_cons (o:=6) (tot:=8) (rd_str (P:=Tryz.prog) (t:=9) (by kernel_rfl)) (k:=1) (by kernel_rfl) (rdS_cons (o:=7) (tot:=8) (rd_bool (P:=Tryz.prog) (t:=4) (by kernel_rfl)) (k:=1) (by kernel_rfl) (rdS_nil (tot:=8))))))))))) (rdA_nil)))) (fun ds h=>by
  match ds,h with
  | [d0,d1,d2],_=>rfl) (fun z hz=>by
   obtain⟨f,l,⟨i,h,t,k,d,y,v,o,_⟩,_⟩:=z
   exact coreAsks_in) (glob_ofU hL) hval hW
end Go.Proofs.YtlmcongmglfaeaaGreatDoor.coreAsks
