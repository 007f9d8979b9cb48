/- law CoreHands in plain words: its eight steps, as they are and spoilt (written by ham.py) -/
import Derived.Test.YtlkkekpcofjbeaaGreatDoorA40
namespace Go.Proofs.YtlkkekpcofjbeaaGreatDoor
open Go Go.RowKit Tw Av
set_option maxRecDepth 100000
attribute [local irreducible] rootD
def haT (i:Bool)(n:Nat):SideX:={ haS i n with d:=mpH i (haQ i n + 1) (haQ i n) }
def haHd (n:Nat):Hdr:=⟨if haI n=true then [97] else [98],(haX (!haI n) (n + 1):Int) + 1,1,mkHs (haR n)⟩
def nSd (i:Bool):Bs:=if i=true then [98] else [97]
theorem up_gen {i:Bool}{j m:Nat}{hd:Hdr}{h t:Int}{x:TxX}(hc:clR (mpH i j m) (nmK i)=haC i j)(hb:clB (mpH i j m) (nmK i)=true)(ha:actC (haC i j) t=true)(hk:chkH hd=true)(hn:hd.c=(haC i j).c)(hs:[107,101,121]++nSd (!i)=(haC i j).k)
  (hp:putsR (mpH i j m) (kyO [67] (nmK i)) (cliB (putC (haC i j) (stOf hd)))=(mpH i (j + 1) m,rep0)) (x4:x.k=4) (xi:x.i=nmK i) (xh:x.h=hd) (xm:x.m=sealOf ([107,101,121]++nSd (!i)) hd):doR (mpH i j m) x h t=(mpH i (j + 1) m,rep0):=by
 have e:doR (mpH i j m) x h t=updR (mpH i j m) x t:=by
  unfold doR
  simp [x4]
 rw [e,updr_ok (by rw [xi];exact hb) (by rw [xi,hc];exact ha) (by rw [xh];exact hk) (by rw [xi,xh,hc];exact hn) (by rw [xi,xh,xm,hc,hs]),xi,xh,hc]
 exact hp
theorem bad_p {d:List Ent}{k:Bs}{n:Nat}{a:Int}{e:Ent}{r:Bs}(hr:r.length=32)(hi:fndAt d k=n)(hs:fndIs d k=true)(h:badK d n a e r=true):holdsB (mkHs r) e { memK d k with a:=a }=false:=by
 unfold memK memP
 rw [hi,hs,if_pos rfl]
 exact badK_holds (by rw [mkHs_l hr];exact h)
theorem mem_a {d:List Ent}{k:Bs}{n:Nat}(hi:fndAt d k=n)(hs:fndIs d k=true):(memK d k).a=n:=by
 unfold memK memP
 rw [hi,hs,if_pos rfl]
 rfl
theorem mem_e {d:List Ent}{k:Bs}{n:Nat}(hi:fndAt d k=n)(hs:fndIs d k=true):memK d k={ memK d k with a:=(n:Int) }:=by
 unfold memK memP
 rw [hi,hs,if_pos rfl]
 rfl
theorem hd_0:hdrX (haS true 1) (haS true 1).h=haHd 0:=congrArg (fun r=>(⟨[98],2,1,r⟩:Hdr)) (ha_r (n:=0) (by decide))
theorem pu_0:putsR (mpH false 0 0) (kyO [67] (nmK false)) (cliB (putC (haC false 0) (stOf (haHd 0))))=((mpH false 1 0),rep0):=by kernel_rfl
theorem up_0:doR (haS false 0).d (txX false (haS false 0) (haS true 1) ⟨0,1,0,0,0,0⟩) ((haS false 0).h + 1) (haS false 0).t=((mpH false 1 0),rep0):=
 up_gen (i:=false) (j:=0) (m:=0) (hd:=haHd 0) (by kernel_rfl) (by kernel_rfl) (by kernel_rfl) (by kernel_rfl) (by kernel_rfl) (by kernel_rfl) pu_0 rfl rfl hd_0 (congrArg (sealOf ([107,101,121]++nSd true)) hd_0)
theorem go_0_0:doR (mpH false 1 0) (txX false (haT false 0) (haS true 1) ⟨0,2,0,0,0,0⟩) ((haT false 0).h + 1) (haT false 0).t=((mpH false 1 1),rep0):=by kernel_rfl
theorem go_0_1:doR (mpH false 1 0) (txX false (haT false 0) (haS true 1) ⟨0,2,0,0,0,1⟩) ((haT false 0).h + 1) (haT false 0).t=((mpH false 1 1),rep0):=by kernel_rfl
theorem go_0_3:doR (mpH false 1 0) (txX false (haT false 0) (haS true 1) ⟨0,2,0,0,0,3⟩) ((haT false 0).h + 1) (haT false 0).t=((mpH false 1 1),rep0):=by kernel_rfl
theorem go_0_6:doR (mpH false 1 0) (txX false (haT false 0) (haS true 1) ⟨0,2,0,0,0,6⟩) ((haT false 0).h + 1) (haT false 0).t=((mpH false 1 1),rep0):=by kernel_rfl
theorem hd_1:hdrX (haS false 2) (haS false 2).h=haHd 1:=congrArg (fun r=>(⟨[97],2,1,r⟩:Hdr)) (ha_r (n:=1) (by decide))
theorem pu_1:putsR (mpH true 0 0) (kyO [67] (nmK true)) (cliB (putC (haC true 0) (stOf (haHd 1))))=((mpH true 1 0),rep0):=by kernel_rfl
theorem up_1:doR (haS true 1).d (txX true (haS true 1) (haS false 2) ⟨1,1,0,0,0,0⟩) ((haS true 1).h + 1) (haS true 1).t=((mpH true 1 0),rep0):=
 up_gen (i:=true) (j:=0) (m:=0) (hd:=haHd 1) (by kernel_rfl) (by kernel_rfl) (by kernel_rfl) (by kernel_rfl) (by kernel_rfl) (by kernel_rfl) pu_1 rfl rfl hd_1 (congrArg (sealOf ([107,101,121]++nSd false)) hd_1)
theorem tx_1_0:txX true (haT true 1) (haS false 2) ⟨1,3,0,0,0,0⟩=(⟨6,(nmN true),(nmK true),(nmN false),(nmK false),[],0,zeroHd,zeroH,zeroPk,[],2,(memK (mpH false 1 1) (kyO [75] (nmN false))),zeroG⟩:TxX):=by kernel_rfl
theorem tx_1_1:txX true (haT true 1) (haS false 2) ⟨1,3,0,0,0,1⟩=(⟨6,(nmN true),(nmK true),(nmN false),(nmK false),[],0,zeroHd,zeroH,zeroPk,[],3,(memK (mpH false 1 1) (kyO [75] (nmN false))),zeroG⟩:TxX):=by kernel_rfl
theorem tx_1_3:txX true (haT true 1) (haS false 2) ⟨1,3,0,0,0,3⟩=(⟨6,(nmN true),(nmK true),(nmN false),(nmK false),[],0,zeroHd,zeroH,zeroPk,[],2,{ (memK (mpH false 1 1) (kyO [75] (nmN false))) with a:=(memK (mpH false 1 1) (kyO [75] (nmN false))).a + 1 },zeroG⟩:TxX):=by kernel_rfl
theorem tx_1_6:txX true (haT true 1) (haS false 2) ⟨1,3,0,0,0,6⟩=(⟨6,(nmN true),(nmK true),[122,122],(nmK false),[],0,zeroHd,zeroH,zeroPk,[],2,(memK (mpH false 1 1) (kyO [75] (nmN false))),zeroG⟩:TxX):=by kernel_rfl
theorem cl_1:(nmK true)=nmK true:=by kernel_rfl
theorem st_1:stE (mpH true 1 0) (nmK true) 2 1=0:=by kernel_rfl
theorem sr_1:(stR (mpH true 1 0) (nmK true) 2 1).r=mkHs (haR 1):=by kernel_rfl
theorem fa_1:fndAt (mpH false 1 1) (kyO [75] (nmN false))=3:=by kernel_rfl
theorem fi_1:fndIs (mpH false 1 1) (kyO [75] (nmN false))=true:=by kernel_rfl
theorem ln_1:decide (3 < (mpH false 1 1).length/\(mpH false 1 1).length<=2000)=true:=by kernel_rfl
theorem pr_1_0:prE (mpH true 1 0) (nmK true) 2 1 (kyO [75] (nmN false)) (enxB ⟨1,(nmK false),(nmK true),[]⟩) (memK (mpH false 1 1) (kyO [75] (nmN false)))=0:=by
 have hl:=of_decide_eq_true ln_1
 have he:(mpH false 1 1)[3]'hl.1=⟨(kyO [75] (nmN false)),(enxB ⟨1,(nmK false),(nmK true),[]⟩)⟩:=by kernel_rfl
 rw [cl_1]
 exact pr_ok st_1 hl.2 hl.1 he (sr_1.trans (ha_r (n:=1) (by decide)).symm) fa_1 fi_1
theorem go_1_0:doR (mpH true 1 0) (txX true (haT true 1) (haS false 2) ⟨1,3,0,0,0,0⟩) ((haT true 1).h + 1) (haT true 1).t=((mpH true 1 1),rep0):=by
 rw [tx_1_0]
 exact (do_6 rfl).trans ((congrArg (conT (mpH true 1 0) (⟨6,(nmN true),(nmK true),(nmN false),(nmK false),[],0,zeroHd,zeroH,zeroPk,[],2,(memK (mpH false 1 1) (kyO [75] (nmN false))),zeroG⟩:TxX)) pr_1_0).trans (by kernel_rfl))
theorem pr_1_1:prE (mpH true 1 0) (nmK true) 3 1 (kyO [75] (nmN false)) (enxB ⟨1,(nmK false),(nmK true),[]⟩) (memK (mpH false 1 1) (kyO [75] (nmN false)))=18:=by
 kernel_rfl
theorem go_1_1:doR (mpH true 1 0) (txX true (haT true 1) (haS false 2) ⟨1,3,0,0,0,1⟩) ((haT true 1).h + 1) (haT true 1).t=((mpH true 1 0),repE 18):=by
 rw [tx_1_1]
 exact (do_6 rfl).trans ((congrArg (conT (mpH true 1 0) (⟨6,(nmN true),(nmK true),(nmN false),(nmK false),[],0,zeroHd,zeroH,zeroPk,[],3,(memK (mpH false 1 1) (kyO [75] (nmN false))),zeroG⟩:TxX)) pr_1_1).trans (by kernel_rfl))
theorem bk_1_3:badK (mpH false 1 1) 3 (3 + 1) ⟨(kyO [75] (nmN false)),(enxB ⟨1,(nmK false),(nmK true),[]⟩)⟩ (haR 1)=true:=by kernel_rfl
theorem pr_1_3:prE (mpH true 1 0) (nmK true) 2 1 (kyO [75] (nmN false)) (enxB ⟨1,(nmK false),(nmK true),[]⟩) { (memK (mpH false 1 1) (kyO [75] (nmN false))) with a:=(memK (mpH false 1 1) (kyO [75] (nmN false))).a + 1 }=18:=by
 rw [cl_1]
 refine pr_bad st_1 ?_
 rw [sr_1,mem_a fa_1 fi_1]
 exact bad_p rfl fa_1 fi_1 bk_1_3
theorem go_1_3:doR (mpH true 1 0) (txX true (haT true 1) (haS false 2) ⟨1,3,0,0,0,3⟩) ((haT true 1).h + 1) (haT true 1).t=((mpH true 1 0),repE 18):=by
 rw [tx_1_3]
 exact (do_6 rfl).trans ((congrArg (conT (mpH true 1 0) (⟨6,(nmN true),(nmK true),(nmN false),(nmK false),[],0,zeroHd,zeroH,zeroPk,[],2,{ (memK (mpH false 1 1) (kyO [75] (nmN false))) with a:=(memK (mpH false 1 1) (kyO [75] (nmN false))).a + 1 },zeroG⟩:TxX)) pr_1_3).trans (by kernel_rfl))
theorem bk_1_6:badK (mpH false 1 1) 3 3 ⟨(kyO [75] [122,122]),(enxB ⟨1,(nmK false),(nmK true),[]⟩)⟩ (haR 1)=true:=by kernel_rfl
theorem pr_1_6:prE (mpH true 1 0) (nmK true) 2 1 (kyO [75] [122,122]) (enxB ⟨1,(nmK false),(nmK true),[]⟩) (memK (mpH false 1 1) (kyO [75] (nmN false)))=18:=by
 rw [cl_1]
 refine pr_bad st_1 ?_
 rw [sr_1,mem_e fa_1 fi_1]
 exact bad_p rfl fa_1 fi_1 bk_1_6
theorem go_1_6:doR (mpH true 1 0) (txX true (haT true 1) (haS false 2) ⟨1,3,0,0,0,6⟩) ((haT true 1).h + 1) (haT true 1).t=((mpH true 1 0),repE 18):=by
 rw [tx_1_6]
 exact (do_6 rfl).trans ((congrArg (conT (mpH true 1 0) (⟨6,(nmN true),(nmK true),[122,122],(nmK false),[],0,zeroHd,zeroH,zeroPk,[],2,(memK (mpH false 1 1) (kyO [75] (nmN false))),zeroG⟩:TxX)) pr_1_6).trans (by kernel_rfl))
theorem hd_2:hdrX (haS true 3) (haS true 3).h=haHd 2:=congrArg (fun r=>(⟨[98],3,1,r⟩:Hdr)) (ha_r (n:=2) (by decide))
theorem pu_2:putsR (mpH false 1 1) (kyO [67] (nmK false)) (cliB (putC (haC false 1) (stOf (haHd 2))))=((mpH false 2 1),rep0):=by kernel_rfl
theorem up_2:doR (haS false 2).d (txX false (haS false 2) (haS true 3) ⟨0,1,0,0,0,0⟩) ((haS false 2).h + 1) (haS false 2).t=((mpH false 2 1),rep0):=
 up_gen (i:=false) (j:=1) (m:=1) (hd:=haHd 2) (by kernel_rfl) (by kernel_rfl) (by kernel_rfl) (by kernel_rfl) (by kernel_rfl) (by kernel_rfl) pu_2 rfl rfl hd_2 (congrArg (sealOf ([107,101,121]++nSd true)) hd_2)
theorem tx_2_0:txX false (haT false 2) (haS true 3) ⟨0,4,0,0,0,0⟩=(⟨7,(nmN false),(nmK false),(nmN true),(nmK true),[],0,zeroHd,zeroH,zeroPk,[],3,(memK (mpH true 1 1) (kyO [75] (nmN true))),zeroG⟩:TxX):=by kernel_rfl
theorem tx_2_1:txX false (haT false 2) (haS true 3) ⟨0,4,0,0,0,1⟩=(⟨7,(nmN false),(nmK false),(nmN true),(nmK true),[],0,zeroHd,zeroH,zeroPk,[],4,(memK (mpH true 1 1) (kyO [75] (nmN true))),zeroG⟩:TxX):=by kernel_rfl
theorem tx_2_3:txX false (haT false 2) (haS true 3) ⟨0,4,0,0,0,3⟩=(⟨7,(nmN false),(nmK false),(nmN true),(nmK true),[],0,zeroHd,zeroH,zeroPk,[],3,{ (memK (mpH true 1 1) (kyO [75] (nmN true))) with a:=(memK (mpH true 1 1) (kyO [75] (nmN true))).a + 1 },zeroG⟩:TxX):=by kernel_rfl
theorem tx_2_6:txX false (haT false 2) (haS true 3) ⟨0,4,0,0,0,6⟩=(⟨7,(nmN false),(nmK false),[122,122],(nmK true),[],0,zeroHd,zeroH,zeroPk,[],3,(memK (mpH true 1 1) (kyO [75] (nmN true))),zeroG⟩:TxX):=by kernel_rfl
theorem cl_2:(enR (mpH false 2 1) [75] (nmN false)).o=nmK false:=by kernel_rfl
theorem st_2:stE (mpH false 2 1) (nmK false) 3 1=0:=by kernel_rfl
theorem sr_2:(stR (mpH false 2 1) (nmK false) 3 1).r=mkHs (haR 2):=by kernel_rfl
theorem fa_2:fndAt (mpH true 1 1) (kyO [75] (nmN true))=3:=by kernel_rfl
theorem fi_2:fndIs (mpH true 1 1) (kyO [75] (nmN true))=true:=by kernel_rfl
theorem ln_2:decide (3 < (mpH true 1 1).length/\(mpH true 1 1).length<=2000)=true:=by kernel_rfl
theorem pr_2_0:prE (mpH false 2 1) (enR (mpH false 2 1) [75] (nmN false)).o 3 1 (kyO [75] (nmN true)) (enxB (thrE (enR (mpH false 2 1) [75] (nmN false)) (nmN false) true)) (memK (mpH true 1 1) (kyO [75] (nmN true)))=0:=by
 have hl:=of_decide_eq_true ln_2
 have he:(mpH true 1 1)[3]'hl.1=⟨(kyO [75] (nmN true)),(enxB (thrE (enR (mpH false 2 1) [75] (nmN false)) (nmN false) true))⟩:=by kernel_rfl
 rw [cl_2]
 exact pr_ok st_2 hl.2 hl.1 he (sr_2.trans (ha_r (n:=2) (by decide)).symm) fa_2 fi_2
theorem go_2_0:doR (mpH false 2 1) (txX false (haT false 2) (haS true 3) ⟨0,4,0,0,0,0⟩) ((haT false 2).h + 1) (haT false 2).t=((mpH false 2 2),rep0):=by
 rw [tx_2_0]
 exact (do_7 rfl).trans ((congrArg (codT (mpH false 2 1) (⟨7,(nmN false),(nmK false),(nmN true),(nmK true),[],0,zeroHd,zeroH,zeroPk,[],3,(memK (mpH true 1 1) (kyO [75] (nmN true))),zeroG⟩:TxX) true) pr_2_0).trans (by kernel_rfl))
theorem pr_2_1:prE (mpH false 2 1) (enR (mpH false 2 1) [75] (nmN false)).o 4 1 (kyO [75] (nmN true)) (enxB (thrE (enR (mpH false 2 1) [75] (nmN false)) (nmN false) true)) (memK (mpH true 1 1) (kyO [75] (nmN true)))=18:=by
 kernel_rfl
theorem go_2_1:doR (mpH false 2 1) (txX false (haT false 2) (haS true 3) ⟨0,4,0,0,0,1⟩) ((haT false 2).h + 1) (haT false 2).t=((mpH false 2 1),repE 18):=by
 rw [tx_2_1]
 exact (do_7 rfl).trans ((congrArg (codT (mpH false 2 1) (⟨7,(nmN false),(nmK false),(nmN true),(nmK true),[],0,zeroHd,zeroH,zeroPk,[],4,(memK (mpH true 1 1) (kyO [75] (nmN true))),zeroG⟩:TxX) true) pr_2_1).trans (by kernel_rfl))
theorem bk_2_3:badK (mpH true 1 1) 3 (3 + 1) ⟨(kyO [75] (nmN true)),(enxB (thrE (enR (mpH false 2 1) [75] (nmN false)) (nmN false) true))⟩ (haR 2)=true:=by kernel_rfl
theorem pr_2_3:prE (mpH false 2 1) (enR (mpH false 2 1) [75] (nmN false)).o 3 1 (kyO [75] (nmN true)) (enxB (thrE (enR (mpH false 2 1) [75] (nmN false)) (nmN false) true)) { (memK (mpH true 1 1) (kyO [75] (nmN true))) with a:=(memK (mpH true 1 1) (kyO [75] (nmN true))).a + 1 }=18:=by
 rw [cl_2]
 refine pr_bad st_2 ?_
 rw [sr_2,mem_a fa_2 fi_2]
 exact bad_p rfl fa_2 fi_2 bk_2_3
theorem go_2_3:doR (mpH false 2 1) (txX false (haT false 2) (haS true 3) ⟨0,4,0,0,0,3⟩) ((haT false 2).h + 1) (haT false 2).t=((mpH false 2 1),repE 18):=by
 rw [tx_2_3]
 exact (do_7 rfl).trans ((congrArg (codT (mpH false 2 1) (⟨7,(nmN false),(nmK false),(nmN true),(nmK true),[],0,zeroHd,zeroH,zeroPk,[],3,{ (memK (mpH true 1 1) (kyO [75] (nmN true))) with a:=(memK (mpH true 1 1) (kyO [75] (nmN true))).a + 1 },zeroG⟩:TxX) true) pr_2_3).trans (by kernel_rfl))
theorem bk_2_6:badK (mpH true 1 1) 3 3 ⟨(kyO [75] [122,122]),(enxB (thrE (enR (mpH false 2 1) [75] (nmN false)) (nmN false) true))⟩ (haR 2)=true:=by kernel_rfl
theorem pr_2_6:prE (mpH false 2 1) (enR (mpH false 2 1) [75] (nmN false)).o 3 1 (kyO [75] [122,122]) (enxB (thrE (enR (mpH false 2 1) [75] (nmN false)) (nmN false) true)) (memK (mpH true 1 1) (kyO [75] (nmN true)))=18:=by
 rw [cl_2]
 refine pr_bad st_2 ?_
 rw [sr_2,mem_e fa_2 fi_2]
 exact bad_p rfl fa_2 fi_2 bk_2_6
theorem go_2_6:doR (mpH false 2 1) (txX false (haT false 2) (haS true 3) ⟨0,4,0,0,0,6⟩) ((haT false 2).h + 1) (haT false 2).t=((mpH false 2 1),repE 18):=by
 rw [tx_2_6]
 exact (do_7 rfl).trans ((congrArg (codT (mpH false 2 1) (⟨7,(nmN false),(nmK false),[122,122],(nmK true),[],0,zeroHd,zeroH,zeroPk,[],3,(memK (mpH true 1 1) (kyO [75] (nmN true))),zeroG⟩:TxX) true) pr_2_6).trans (by kernel_rfl))
theorem hd_3:hdrX (haS false 4) (haS false 4).h=haHd 3:=congrArg (fun r=>(⟨[97],3,1,r⟩:Hdr)) (ha_r (n:=3) (by decide))
theorem pu_3:putsR (mpH true 1 1) (kyO [67] (nmK true)) (cliB (putC (haC true 1) (stOf (haHd 3))))=((mpH true 2 1),rep0):=by kernel_rfl
theorem up_3:doR (haS true 3).d (txX true (haS true 3) (haS false 4) ⟨1,1,0,0,0,0⟩) ((haS true 3).h + 1) (haS true 3).t=((mpH true 2 1),rep0):=
 up_gen (i:=true) (j:=1) (m:=1) (hd:=haHd 3) (by kernel_rfl) (by kernel_rfl) (by kernel_rfl) (by kernel_rfl) (by kernel_rfl) (by kernel_rfl) pu_3 rfl rfl hd_3 (congrArg (sealOf ([107,101,121]++nSd false)) hd_3)
theorem tx_3_0:txX true (haT true 3) (haS false 4) ⟨1,5,0,0,0,0⟩=(⟨8,(nmN true),(nmK true),(nmN false),(nmK false),[],0,zeroHd,zeroH,zeroPk,[],3,(memK (mpH false 2 2) (kyO [75] (nmN false))),zeroG⟩:TxX):=by kernel_rfl
theorem tx_3_1:txX true (haT true 3) (haS false 4) ⟨1,5,0,0,0,1⟩=(⟨8,(nmN true),(nmK true),(nmN false),(nmK false),[],0,zeroHd,zeroH,zeroPk,[],4,(memK (mpH false 2 2) (kyO [75] (nmN false))),zeroG⟩:TxX):=by kernel_rfl
theorem tx_3_3:txX true (haT true 3) (haS false 4) ⟨1,5,0,0,0,3⟩=(⟨8,(nmN true),(nmK true),(nmN false),(nmK false),[],0,zeroHd,zeroH,zeroPk,[],3,{ (memK (mpH false 2 2) (kyO [75] (nmN false))) with a:=(memK (mpH false 2 2) (kyO [75] (nmN false))).a + 1 },zeroG⟩:TxX):=by kernel_rfl
theorem tx_3_6:txX true (haT true 3) (haS false 4) ⟨1,5,0,0,0,6⟩=(⟨8,(nmN true),(nmK true),[122,122],(nmK false),[],0,zeroHd,zeroH,zeroPk,[],3,(memK (mpH false 2 2) (kyO [75] (nmN false))),zeroG⟩:TxX):=by kernel_rfl
theorem cl_3:(enR (mpH true 2 1) [75] (nmN true)).o=nmK true:=by kernel_rfl
theorem st_3:stE (mpH true 2 1) (nmK true) 3 1=0:=by kernel_rfl
theorem sr_3:(stR (mpH true 2 1) (nmK true) 3 1).r=mkHs (haR 3):=by kernel_rfl
theorem fa_3:fndAt (mpH false 2 2) (kyO [75] (nmN false))=3:=by kernel_rfl
theorem fi_3:fndIs (mpH false 2 2) (kyO [75] (nmN false))=true:=by kernel_rfl
theorem ln_3:decide (3 < (mpH false 2 2).length/\(mpH false 2 2).length<=2000)=true:=by kernel_rfl
theorem ky_3:(kyO [75] (enR (mpH true 2 1) [75] (nmN true)).p)=(kyO [75] (nmN false)):=by kernel_rfl
theorem pr_3_0:prE (mpH true 2 1) (enR (mpH true 2 1) [75] (nmN true)).o 3 1 (kyO [75] (enR (mpH true 2 1) [75] (nmN true)).p) (enxB (thrE (enR (mpH true 2 1) [75] (nmN true)) (nmN true) false)) (memK (mpH false 2 2) (kyO [75] (nmN false)))=0:=by
 have hl:=of_decide_eq_true ln_3
 have he:(mpH false 2 2)[3]'hl.1=⟨(kyO [75] (nmN false)),(enxB (thrE (enR (mpH true 2 1) [75] (nmN true)) (nmN true) false))⟩:=by kernel_rfl
 rw [cl_3]
 rw [ky_3]
 exact pr_ok st_3 hl.2 hl.1 he (sr_3.trans (ha_r (n:=3) (by decide)).symm) fa_3 fi_3
theorem go_3_0:doR (mpH true 2 1) (txX true (haT true 3) (haS false 4) ⟨1,5,0,0,0,0⟩) ((haT true 3).h + 1) (haT true 3).t=((mpH true 2 2),rep0):=by
 rw [tx_3_0]
 exact (do_8 rfl).trans ((congrArg (codT (mpH true 2 1) (⟨8,(nmN true),(nmK true),(nmN false),(nmK false),[],0,zeroHd,zeroH,zeroPk,[],3,(memK (mpH false 2 2) (kyO [75] (nmN false))),zeroG⟩:TxX) false) pr_3_0).trans (by kernel_rfl))
theorem pr_3_1:prE (mpH true 2 1) (enR (mpH true 2 1) [75] (nmN true)).o 4 1 (kyO [75] (enR (mpH true 2 1) [75] (nmN true)).p) (enxB (thrE (enR (mpH true 2 1) [75] (nmN true)) (nmN true) false)) (memK (mpH false 2 2) (kyO [75] (nmN false)))=18:=by
 kernel_rfl
theorem go_3_1:doR (mpH true 2 1) (txX true (haT true 3) (haS false 4) ⟨1,5,0,0,0,1⟩) ((haT true 3).h + 1) (haT true 3).t=((mpH true 2 1),repE 18):=by
 rw [tx_3_1]
 exact (do_8 rfl).trans ((congrArg (codT (mpH true 2 1) (⟨8,(nmN true),(nmK true),(nmN false),(nmK false),[],0,zeroHd,zeroH,zeroPk,[],4,(memK (mpH false 2 2) (kyO [75] (nmN false))),zeroG⟩:TxX) false) pr_3_1).trans (by kernel_rfl))
theorem bk_3_3:badK (mpH false 2 2) 3 (3 + 1) ⟨(kyO [75] (nmN false)),(enxB (thrE (enR (mpH true 2 1) [75] (nmN true)) (nmN true) false))⟩ (haR 3)=true:=by kernel_rfl
theorem pr_3_3:prE (mpH true 2 1) (enR (mpH true 2 1) [75] (nmN true)).o 3 1 (kyO [75] (enR (mpH true 2 1) [75] (nmN true)).p) (enxB (thrE (enR (mpH true 2 1) [75] (nmN true)) (nmN true) false)) { (memK (mpH false 2 2) (kyO [75] (nmN false))) with a:=(memK (mpH false 2 2) (kyO [75] (nmN false))).a + 1 }=18:=by
 rw [cl_3]
 rw [ky_3]
 refine pr_bad st_3 ?_
 rw [sr_3,mem_a fa_3 fi_3]
 exact bad_p rfl fa_3 fi_3 bk_3_3
theorem go_3_3:doR (mpH true 2 1) (txX true (haT true 3) (haS false 4) ⟨1,5,0,0,0,3⟩) ((haT true 3).h + 1) (haT true 3).t=((mpH true 2 1),repE 18):=by
 rw [tx_3_3]
 exact (do_8 rfl).trans ((congrArg (codT (mpH true 2 1) (⟨8,(nmN true),(nmK true),(nmN false),(nmK false),[],0,zeroHd,zeroH,zeroPk,[],3,{ (memK (mpH false 2 2) (kyO [75] (nmN false))) with a:=(memK (mpH false 2 2) (kyO [75] (nmN false))).a + 1 },zeroG⟩:TxX) false) pr_3_3).trans (by kernel_rfl))
theorem pr_3_6:prE (mpH true 2 1) (enR (mpH true 2 1) [75] (nmN true)).o 3 1 (kyO [75] (enR (mpH true 2 1) [75] (nmN true)).p) (enxB (thrE (enR (mpH true 2 1) [75] (nmN true)) (nmN true) false)) (memK (mpH false 2 2) (kyO [75] (nmN false)))=0:=by
 have hl:=of_decide_eq_true ln_3
 have he:(mpH false 2 2)[3]'hl.1=⟨(kyO [75] (nmN false)),(enxB (thrE (enR (mpH true 2 1) [75] (nmN true)) (nmN true) false))⟩:=by kernel_rfl
 rw [cl_3]
 rw [ky_3]
 exact pr_ok st_3 hl.2 hl.1 he (sr_3.trans (ha_r (n:=3) (by decide)).symm) fa_3 fi_3
theorem go_3_6:doR (mpH true 2 1) (txX true (haT true 3) (haS false 4) ⟨1,5,0,0,0,6⟩) ((haT true 3).h + 1) (haT true 3).t=((mpH true 2 2),rep0):=by
 rw [tx_3_6]
 exact (do_8 rfl).trans ((congrArg (codT (mpH true 2 1) (⟨8,(nmN true),(nmK true),[122,122],(nmK false),[],0,zeroHd,zeroH,zeroPk,[],3,(memK (mpH false 2 2) (kyO [75] (nmN false))),zeroG⟩:TxX) false) pr_3_6).trans (by kernel_rfl))
theorem hd_4:hdrX (haS true 5) (haS true 5).h=haHd 4:=congrArg (fun r=>(⟨[98],4,1,r⟩:Hdr)) (ha_r (n:=4) (by decide))
theorem pu_4:putsR (mpH false 2 2) (kyO [67] (nmK false)) (cliB (putC (haC false 2) (stOf (haHd 4))))=((mpH false 3 2),rep0):=by kernel_rfl
theorem up_4:doR (haS false 4).d (txX false (haS false 4) (haS true 5) ⟨0,1,0,0,0,0⟩) ((haS false 4).h + 1) (haS false 4).t=((mpH false 3 2),rep0):=
 up_gen (i:=false) (j:=2) (m:=2) (hd:=haHd 4) (by kernel_rfl) (by kernel_rfl) (by kernel_rfl) (by kernel_rfl) (by kernel_rfl) (by kernel_rfl) pu_4 rfl rfl hd_4 (congrArg (sealOf ([107,101,121]++nSd true)) hd_4)
theorem go_4_0:doR (mpH false 3 2) (txX false (haT false 4) (haS true 5) ⟨0,6,0,0,0,0⟩) ((haT false 4).h + 1) (haT false 4).t=((mpH false 3 3),rep0):=by kernel_rfl
theorem go_4_1:doR (mpH false 3 2) (txX false (haT false 4) (haS true 5) ⟨0,6,0,0,0,1⟩) ((haT false 4).h + 1) (haT false 4).t=((mpH false 3 3),rep0):=by kernel_rfl
theorem go_4_3:doR (mpH false 3 2) (txX false (haT false 4) (haS true 5) ⟨0,6,0,0,0,3⟩) ((haT false 4).h + 1) (haT false 4).t=((mpH false 3 3),rep0):=by kernel_rfl
theorem go_4_6:doR (mpH false 3 2) (txX false (haT false 4) (haS true 5) ⟨0,6,0,0,0,6⟩) ((haT false 4).h + 1) (haT false 4).t=((mpH false 3 3),rep0):=by kernel_rfl
theorem hd_5:hdrX (haS false 6) (haS false 6).h=haHd 5:=congrArg (fun r=>(⟨[97],4,1,r⟩:Hdr)) (ha_r (n:=5) (by decide))
theorem pu_5:putsR (mpH true 2 2) (kyO [67] (nmK true)) (cliB (putC (haC true 2) (stOf (haHd 5))))=((mpH true 3 2),rep0):=by kernel_rfl
theorem up_5:doR (haS true 5).d (txX true (haS true 5) (haS false 6) ⟨1,1,0,0,0,0⟩) ((haS true 5).h + 1) (haS true 5).t=((mpH true 3 2),rep0):=
 up_gen (i:=true) (j:=2) (m:=2) (hd:=haHd 5) (by kernel_rfl) (by kernel_rfl) (by kernel_rfl) (by kernel_rfl) (by kernel_rfl) (by kernel_rfl) pu_5 rfl rfl hd_5 (congrArg (sealOf ([107,101,121]++nSd false)) hd_5)
theorem tx_5_0:txX true (haT true 5) (haS false 6) ⟨1,7,0,0,0,0⟩=(⟨10,(nmH true),(nmN true),(nmH false),(nmN false),[],0,zeroHd,zeroH,zeroPk,[],4,(memK (mpH false 3 3) (kyO [72] (nmH false))),zeroG⟩:TxX):=by kernel_rfl
theorem tx_5_1:txX true (haT true 5) (haS false 6) ⟨1,7,0,0,0,1⟩=(⟨10,(nmH true),(nmN true),(nmH false),(nmN false),[],0,zeroHd,zeroH,zeroPk,[],5,(memK (mpH false 3 3) (kyO [72] (nmH false))),zeroG⟩:TxX):=by kernel_rfl
theorem tx_5_3:txX true (haT true 5) (haS false 6) ⟨1,7,0,0,0,3⟩=(⟨10,(nmH true),(nmN true),(nmH false),(nmN false),[],0,zeroHd,zeroH,zeroPk,[],4,{ (memK (mpH false 3 3) (kyO [72] (nmH false))) with a:=(memK (mpH false 3 3) (kyO [72] (nmH false))).a + 1 },zeroG⟩:TxX):=by kernel_rfl
theorem tx_5_6:txX true (haT true 5) (haS false 6) ⟨1,7,0,0,0,6⟩=(⟨10,(nmH true),(nmN true),[122,122],(nmN false),[],0,zeroHd,zeroH,zeroPk,[],4,(memK (mpH false 3 3) (kyO [72] (nmH false))),zeroG⟩:TxX):=by kernel_rfl
theorem cl_5:(enR (mpH true 3 2) [75] (nmN true)).o=nmK true:=by kernel_rfl
theorem st_5:stE (mpH true 3 2) (nmK true) 4 1=0:=by kernel_rfl
theorem sr_5:(stR (mpH true 3 2) (nmK true) 4 1).r=mkHs (haR 5):=by kernel_rfl
theorem fa_5:fndAt (mpH false 3 3) (kyO [72] (nmH false))=3:=by kernel_rfl
theorem fi_5:fndIs (mpH false 3 3) (kyO [72] (nmH false))=true:=by kernel_rfl
theorem ln_5:decide (3 < (mpH false 3 3).length/\(mpH false 3 3).length<=2000)=true:=by kernel_rfl
theorem pr_5_0:prE (mpH true 3 2) (enR (mpH true 3 2) [75] (nmN true)).o 4 1 (kyO [72] (nmH false)) (enxB ⟨1,(nmN false),(nmN true),[]⟩) (memK (mpH false 3 3) (kyO [72] (nmH false)))=0:=by
 have hl:=of_decide_eq_true ln_5
 have he:(mpH false 3 3)[3]'hl.1=⟨(kyO [72] (nmH false)),(enxB ⟨1,(nmN false),(nmN true),[]⟩)⟩:=by kernel_rfl
 rw [cl_5]
 exact pr_ok st_5 hl.2 hl.1 he (sr_5.trans (ha_r (n:=5) (by decide)).symm) fa_5 fi_5
theorem go_5_0:doR (mpH true 3 2) (txX true (haT true 5) (haS false 6) ⟨1,7,0,0,0,0⟩) ((haT true 5).h + 1) (haT true 5).t=((mpH true 3 3),rep0):=by
 rw [tx_5_0]
 exact (do_10 rfl).trans ((congrArg (opnT (mpH true 3 2) (⟨10,(nmH true),(nmN true),(nmH false),(nmN false),[],0,zeroHd,zeroH,zeroPk,[],4,(memK (mpH false 3 3) (kyO [72] (nmH false))),zeroG⟩:TxX)) pr_5_0).trans (by kernel_rfl))
theorem pr_5_1:prE (mpH true 3 2) (enR (mpH true 3 2) [75] (nmN true)).o 5 1 (kyO [72] (nmH false)) (enxB ⟨1,(nmN false),(nmN true),[]⟩) (memK (mpH false 3 3) (kyO [72] (nmH false)))=18:=by
 kernel_rfl
theorem go_5_1:doR (mpH true 3 2) (txX true (haT true 5) (haS false 6) ⟨1,7,0,0,0,1⟩) ((haT true 5).h + 1) (haT true 5).t=((mpH true 3 2),repE 18):=by
 rw [tx_5_1]
 exact (do_10 rfl).trans ((congrArg (opnT (mpH true 3 2) (⟨10,(nmH true),(nmN true),(nmH false),(nmN false),[],0,zeroHd,zeroH,zeroPk,[],5,(memK (mpH false 3 3) (kyO [72] (nmH false))),zeroG⟩:TxX)) pr_5_1).trans (by kernel_rfl))
theorem bk_5_3:badK (mpH false 3 3) 3 (3 + 1) ⟨(kyO [72] (nmH false)),(enxB ⟨1,(nmN false),(nmN true),[]⟩)⟩ (haR 5)=true:=by kernel_rfl
theorem pr_5_3:prE (mpH true 3 2) (enR (mpH true 3 2) [75] (nmN true)).o 4 1 (kyO [72] (nmH false)) (enxB ⟨1,(nmN false),(nmN true),[]⟩) { (memK (mpH false 3 3) (kyO [72] (nmH false))) with a:=(memK (mpH false 3 3) (kyO [72] (nmH false))).a + 1 }=18:=by
 rw [cl_5]
 refine pr_bad st_5 ?_
 rw [sr_5,mem_a fa_5 fi_5]
 exact bad_p rfl fa_5 fi_5 bk_5_3
theorem go_5_3:doR (mpH true 3 2) (txX true (haT true 5) (haS false 6) ⟨1,7,0,0,0,3⟩) ((haT true 5).h + 1) (haT true 5).t=((mpH true 3 2),repE 18):=by
 rw [tx_5_3]
 exact (do_10 rfl).trans ((congrArg (opnT (mpH true 3 2) (⟨10,(nmH true),(nmN true),(nmH false),(nmN false),[],0,zeroHd,zeroH,zeroPk,[],4,{ (memK (mpH false 3 3) (kyO [72] (nmH false))) with a:=(memK (mpH false 3 3) (kyO [72] (nmH false))).a + 1 },zeroG⟩:TxX)) pr_5_3).trans (by kernel_rfl))
theorem bk_5_6:badK (mpH false 3 3) 3 3 ⟨(kyO [72] [122,122]),(enxB ⟨1,(nmN false),(nmN true),[]⟩)⟩ (haR 5)=true:=by kernel_rfl
theorem pr_5_6:prE (mpH true 3 2) (enR (mpH true 3 2) [75] (nmN true)).o 4 1 (kyO [72] [122,122]) (enxB ⟨1,(nmN false),(nmN true),[]⟩) (memK (mpH false 3 3) (kyO [72] (nmH false)))=18:=by
 rw [cl_5]
 refine pr_bad st_5 ?_
 rw [sr_5,mem_e fa_5 fi_5]
 exact bad_p rfl fa_5 fi_5 bk_5_6
theorem go_5_6:doR (mpH true 3 2) (txX true (haT true 5) (haS false 6) ⟨1,7,0,0,0,6⟩) ((haT true 5).h + 1) (haT true 5).t=((mpH true 3 2),repE 18):=by
 rw [tx_5_6]
 exact (do_10 rfl).trans ((congrArg (opnT (mpH true 3 2) (⟨10,(nmH true),(nmN true),[122,122],(nmN false),[],0,zeroHd,zeroH,zeroPk,[],4,(memK (mpH false 3 3) (kyO [72] (nmH false))),zeroG⟩:TxX)) pr_5_6).trans (by kernel_rfl))
theorem hd_6:hdrX (haS true 7) (haS true 7).h=haHd 6:=congrArg (fun r=>(⟨[98],5,1,r⟩:Hdr)) (ha_r (n:=6) (by decide))
theorem pu_6:putsR (mpH false 3 3) (kyO [67] (nmK false)) (cliB (putC (haC false 3) (stOf (haHd 6))))=((mpH false 4 3),rep0):=by kernel_rfl
theorem up_6:doR (haS false 6).d (txX false (haS false 6) (haS true 7) ⟨0,1,0,0,0,0⟩) ((haS false 6).h + 1) (haS false 6).t=((mpH false 4 3),rep0):=
 up_gen (i:=false) (j:=3) (m:=3) (hd:=haHd 6) (by kernel_rfl) (by kernel_rfl) (by kernel_rfl) (by kernel_rfl) (by kernel_rfl) (by kernel_rfl) pu_6 rfl rfl hd_6 (congrArg (sealOf ([107,101,121]++nSd true)) hd_6)
theorem tx_6_0:txX false (haT false 6) (haS true 7) ⟨0,8,0,0,0,0⟩=(⟨11,(nmH false),(nmN false),(nmH true),(nmN true),[],0,zeroHd,zeroH,zeroPk,[],5,(memK (mpH true 3 3) (kyO [72] (nmH true))),zeroG⟩:TxX):=by kernel_rfl
theorem tx_6_1:txX false (haT false 6) (haS true 7) ⟨0,8,0,0,0,1⟩=(⟨11,(nmH false),(nmN false),(nmH true),(nmN true),[],0,zeroHd,zeroH,zeroPk,[],6,(memK (mpH true 3 3) (kyO [72] (nmH true))),zeroG⟩:TxX):=by kernel_rfl
theorem tx_6_3:txX false (haT false 6) (haS true 7) ⟨0,8,0,0,0,3⟩=(⟨11,(nmH false),(nmN false),(nmH true),(nmN true),[],0,zeroHd,zeroH,zeroPk,[],5,{ (memK (mpH true 3 3) (kyO [72] (nmH true))) with a:=(memK (mpH true 3 3) (kyO [72] (nmH true))).a + 1 },zeroG⟩:TxX):=by kernel_rfl
theorem tx_6_6:txX false (haT false 6) (haS true 7) ⟨0,8,0,0,0,6⟩=(⟨11,(nmH false),(nmN false),[122,122],(nmN true),[],0,zeroHd,zeroH,zeroPk,[],5,(memK (mpH true 3 3) (kyO [72] (nmH true))),zeroG⟩:TxX):=by kernel_rfl
theorem cl_6:(enR (mpH false 4 3) [75] (enR (mpH false 4 3) [72] (nmH false)).o).o=nmK false:=by kernel_rfl
theorem st_6:stE (mpH false 4 3) (nmK false) 5 1=0:=by kernel_rfl
theorem sr_6:(stR (mpH false 4 3) (nmK false) 5 1).r=mkHs (haR 6):=by kernel_rfl
theorem fa_6:fndAt (mpH true 3 3) (kyO [72] (nmH true))=3:=by kernel_rfl
theorem fi_6:fndIs (mpH true 3 3) (kyO [72] (nmH true))=true:=by kernel_rfl
theorem ln_6:decide (3 < (mpH true 3 3).length/\(mpH true 3 3).length<=2000)=true:=by kernel_rfl
theorem pr_6_0:prE (mpH false 4 3) (enR (mpH false 4 3) [75] (enR (mpH false 4 3) [72] (nmH false)).o).o 5 1 (kyO [72] (nmH true)) (enxB (thrE (enR (mpH false 4 3) [72] (nmH false)) (nmH false) true)) (memK (mpH true 3 3) (kyO [72] (nmH true)))=0:=by
 have hl:=of_decide_eq_true ln_6
 have he:(mpH true 3 3)[3]'hl.1=⟨(kyO [72] (nmH true)),(enxB (thrE (enR (mpH false 4 3) [72] (nmH false)) (nmH false) true))⟩:=by kernel_rfl
 rw [cl_6]
 exact pr_ok st_6 hl.2 hl.1 he (sr_6.trans (ha_r (n:=6) (by decide)).symm) fa_6 fi_6
theorem go_6_0:doR (mpH false 4 3) (txX false (haT false 6) (haS true 7) ⟨0,8,0,0,0,0⟩) ((haT false 6).h + 1) (haT false 6).t=((mpH false 4 4),rep0):=by
 rw [tx_6_0]
 exact (do_11 rfl).trans ((congrArg (opdT (mpH false 4 3) (⟨11,(nmH false),(nmN false),(nmH true),(nmN true),[],0,zeroHd,zeroH,zeroPk,[],5,(memK (mpH true 3 3) (kyO [72] (nmH true))),zeroG⟩:TxX) true) pr_6_0).trans (by kernel_rfl))
theorem pr_6_1:prE (mpH false 4 3) (enR (mpH false 4 3) [75] (enR (mpH false 4 3) [72] (nmH false)).o).o 6 1 (kyO [72] (nmH true)) (enxB (thrE (enR (mpH false 4 3) [72] (nmH false)) (nmH false) true)) (memK (mpH true 3 3) (kyO [72] (nmH true)))=18:=by
 kernel_rfl
theorem go_6_1:doR (mpH false 4 3) (txX false (haT false 6) (haS true 7) ⟨0,8,0,0,0,1⟩) ((haT false 6).h + 1) (haT false 6).t=((mpH false 4 3),repE 18):=by
 rw [tx_6_1]
 exact (do_11 rfl).trans ((congrArg (opdT (mpH false 4 3) (⟨11,(nmH false),(nmN false),(nmH true),(nmN true),[],0,zeroHd,zeroH,zeroPk,[],6,(memK (mpH true 3 3) (kyO [72] (nmH true))),zeroG⟩:TxX) true) pr_6_1).trans (by kernel_rfl))
theorem bk_6_3:badK (mpH true 3 3) 3 (3 + 1) ⟨(kyO [72] (nmH true)),(enxB (thrE (enR (mpH false 4 3) [72] (nmH false)) (nmH false) true))⟩ (haR 6)=true:=by kernel_rfl
theorem pr_6_3:prE (mpH false 4 3) (enR (mpH false 4 3) [75] (enR (mpH false 4 3) [72] (nmH false)).o).o 5 1 (kyO [72] (nmH true)) (enxB (thrE (enR (mpH false 4 3) [72] (nmH false)) (nmH false) true)) { (memK (mpH true 3 3) (kyO [72] (nmH true))) with a:=(memK (mpH true 3 3) (kyO [72] (nmH true))).a + 1 }=18:=by
 rw [cl_6]
 refine pr_bad st_6 ?_
 rw [sr_6,mem_a fa_6 fi_6]
 exact bad_p rfl fa_6 fi_6 bk_6_3
theorem go_6_3:doR (mpH false 4 3) (txX false (haT false 6) (haS true 7) ⟨0,8,0,0,0,3⟩) ((haT false 6).h + 1) (haT false 6).t=((mpH false 4 3),repE 18):=by
 rw [tx_6_3]
 exact (do_11 rfl).trans ((congrArg (opdT (mpH false 4 3) (⟨11,(nmH false),(nmN false),(nmH true),(nmN true),[],0,zeroHd,zeroH,zeroPk,[],5,{ (memK (mpH true 3 3) (kyO [72] (nmH true))) with a:=(memK (mpH true 3 3) (kyO [72] (nmH true))).a + 1 },zeroG⟩:TxX) true) pr_6_3).trans (by kernel_rfl))
theorem bk_6_6:badK (mpH true 3 3) 3 3 ⟨(kyO [72] [122,122]),(enxB (thrE (enR (mpH false 4 3) [72] (nmH false)) (nmH false) true))⟩ (haR 6)=true:=by kernel_rfl
theorem pr_6_6:prE (mpH false 4 3) (enR (mpH false 4 3) [75] (enR (mpH false 4 3) [72] (nmH false)).o).o 5 1 (kyO [72] [122,122]) (enxB (thrE (enR (mpH false 4 3) [72] (nmH false)) (nmH false) true)) (memK (mpH true 3 3) (kyO [72] (nmH true)))=18:=by
 rw [cl_6]
 refine pr_bad st_6 ?_
 rw [sr_6,mem_e fa_6 fi_6]
 exact bad_p rfl fa_6 fi_6 bk_6_6
theorem go_6_6:doR (mpH false 4 3) (txX false (haT false 6) (haS true 7) ⟨0,8,0,0,0,6⟩) ((haT false 6).h + 1) (haT false 6).t=((mpH false 4 3),repE 18):=by
 rw [tx_6_6]
 exact (do_11 rfl).trans ((congrArg (opdT (mpH false 4 3) (⟨11,(nmH false),(nmN false),[122,122],(nmN true),[],0,zeroHd,zeroH,zeroPk,[],5,(memK (mpH true 3 3) (kyO [72] (nmH true))),zeroG⟩:TxX) true) pr_6_6).trans (by kernel_rfl))
theorem hd_7:hdrX (haS false 8) (haS false 8).h=haHd 7:=congrArg (fun r=>(⟨[97],5,1,r⟩:Hdr)) (ha_r (n:=7) (by decide))
theorem pu_7:putsR (mpH true 3 3) (kyO [67] (nmK true)) (cliB (putC (haC true 3) (stOf (haHd 7))))=((mpH true 4 3),rep0):=by kernel_rfl
theorem up_7:doR (haS true 7).d (txX true (haS true 7) (haS false 8) ⟨1,1,0,0,0,0⟩) ((haS true 7).h + 1) (haS true 7).t=((mpH true 4 3),rep0):=
 up_gen (i:=true) (j:=3) (m:=3) (hd:=haHd 7) (by kernel_rfl) (by kernel_rfl) (by kernel_rfl) (by kernel_rfl) (by kernel_rfl) (by kernel_rfl) pu_7 rfl rfl hd_7 (congrArg (sealOf ([107,101,121]++nSd false)) hd_7)
theorem tx_7_0:txX true (haT true 7) (haS false 8) ⟨1,9,0,0,0,0⟩=(⟨12,(nmH true),(nmN true),(nmH false),(nmN false),[],0,zeroHd,zeroH,zeroPk,[],5,(memK (mpH false 4 4) (kyO [72] (nmH false))),zeroG⟩:TxX):=by kernel_rfl
theorem tx_7_1:txX true (haT true 7) (haS false 8) ⟨1,9,0,0,0,1⟩=(⟨12,(nmH true),(nmN true),(nmH false),(nmN false),[],0,zeroHd,zeroH,zeroPk,[],6,(memK (mpH false 4 4) (kyO [72] (nmH false))),zeroG⟩:TxX):=by kernel_rfl
theorem tx_7_3:txX true (haT true 7) (haS false 8) ⟨1,9,0,0,0,3⟩=(⟨12,(nmH true),(nmN true),(nmH false),(nmN false),[],0,zeroHd,zeroH,zeroPk,[],5,{ (memK (mpH false 4 4) (kyO [72] (nmH false))) with a:=(memK (mpH false 4 4) (kyO [72] (nmH false))).a + 1 },zeroG⟩:TxX):=by kernel_rfl
theorem tx_7_6:txX true (haT true 7) (haS false 8) ⟨1,9,0,0,0,6⟩=(⟨12,(nmH true),(nmN true),[122,122],(nmN false),[],0,zeroHd,zeroH,zeroPk,[],5,(memK (mpH false 4 4) (kyO [72] (nmH false))),zeroG⟩:TxX):=by kernel_rfl
theorem cl_7:(enR (mpH true 4 3) [75] (enR (mpH true 4 3) [72] (nmH true)).o).o=nmK true:=by kernel_rfl
theorem st_7:stE (mpH true 4 3) (nmK true) 5 1=0:=by kernel_rfl
theorem sr_7:(stR (mpH true 4 3) (nmK true) 5 1).r=mkHs (haR 7):=by kernel_rfl
theorem fa_7:fndAt (mpH false 4 4) (kyO [72] (nmH false))=3:=by kernel_rfl
theorem fi_7:fndIs (mpH false 4 4) (kyO [72] (nmH false))=true:=by kernel_rfl
theorem ln_7:decide (3 < (mpH false 4 4).length/\(mpH false 4 4).length<=2000)=true:=by kernel_rfl
theorem ky_7:(kyO [72] (enR (mpH true 4 3) [72] (nmH true)).p)=(kyO [72] (nmH false)):=by kernel_rfl
theorem pr_7_0:prE (mpH true 4 3) (enR (mpH true 4 3) [75] (enR (mpH true 4 3) [72] (nmH true)).o).o 5 1 (kyO [72] (enR (mpH true 4 3) [72] (nmH true)).p) (enxB (thrE (enR (mpH true 4 3) [72] (nmH true)) (nmH true) false)) (memK (mpH false 4 4) (kyO [72] (nmH false)))=0:=by
 have hl:=of_decide_eq_true ln_7
 have he:(mpH false 4 4)[3]'hl.1=⟨(kyO [72] (nmH false)),(enxB (thrE (enR (mpH true 4 3) [72] (nmH true)) (nmH true) false))⟩:=by kernel_rfl
 rw [cl_7]
 rw [ky_7]
 exact pr_ok st_7 hl.2 hl.1 he (sr_7.trans (ha_r (n:=7) (by decide)).symm) fa_7 fi_7
theorem go_7_0:doR (mpH true 4 3) (txX true (haT true 7) (haS false 8) ⟨1,9,0,0,0,0⟩) ((haT true 7).h + 1) (haT true 7).t=((mpH true 4 4),rep0):=by
 rw [tx_7_0]
 exact (do_12 rfl).trans ((congrArg (opdT (mpH true 4 3) (⟨12,(nmH true),(nmN true),(nmH false),(nmN false),[],0,zeroHd,zeroH,zeroPk,[],5,(memK (mpH false 4 4) (kyO [72] (nmH false))),zeroG⟩:TxX) false) pr_7_0).trans (by kernel_rfl))
theorem pr_7_1:prE (mpH true 4 3) (enR (mpH true 4 3) [75] (enR (mpH true 4 3) [72] (nmH true)).o).o 6 1 (kyO [72] (enR (mpH true 4 3) [72] (nmH true)).p) (enxB (thrE (enR (mpH true 4 3) [72] (nmH true)) (nmH true) false)) (memK (mpH false 4 4) (kyO [72] (nmH false)))=18:=by
 kernel_rfl
theorem go_7_1:doR (mpH true 4 3) (txX true (haT true 7) (haS false 8) ⟨1,9,0,0,0,1⟩) ((haT true 7).h + 1) (haT true 7).t=((mpH true 4 3),repE 18):=by
 rw [tx_7_1]
 exact (do_12 rfl).trans ((congrArg (opdT (mpH true 4 3) (⟨12,(nmH true),(nmN true),(nmH false),(nmN false),[],0,zeroHd,zeroH,zeroPk,[],6,(memK (mpH false 4 4) (kyO [72] (nmH false))),zeroG⟩:TxX) false) pr_7_1).trans (by kernel_rfl))
theorem bk_7_3:badK (mpH false 4 4) 3 (3 + 1) ⟨(kyO [72] (nmH false)),(enxB (thrE (enR (mpH true 4 3) [72] (nmH true)) (nmH true) false))⟩ (haR 7)=true:=by kernel_rfl
theorem pr_7_3:prE (mpH true 4 3) (enR (mpH true 4 3) [75] (enR (mpH true 4 3) [72] (nmH true)).o).o 5 1 (kyO [72] (enR (mpH true 4 3) [72] (nmH true)).p) (enxB (thrE (enR (mpH true 4 3) [72] (nmH true)) (nmH true) false)) { (memK (mpH false 4 4) (kyO [72] (nmH false))) with a:=(memK (mpH false 4 4) (kyO [72] (nmH false))).a + 1 }=18:=by
 rw [cl_7]
 rw [ky_7]
 refine pr_bad st_7 ?_
 rw [sr_7,mem_a fa_7 fi_7]
 exact bad_p rfl fa_7 fi_7 bk_7_3
theorem go_7_3:doR (mpH true 4 3) (txX true (haT true 7) (haS false 8) ⟨1,9,0,0,0,3⟩) ((haT true 7).h + 1) (haT true 7).t=((mpH true 4 3),repE 18):=by
 rw [tx_7_3]
 exact (do_12 rfl).trans ((congrArg (opdT (mpH true 4 3) (⟨12,(nmH true),(nmN true),(nmH false),(nmN false),[],0,zeroHd,zeroH,zeroPk,[],5,{ (memK (mpH false 4 4) (kyO [72] (nmH false))) with a:=(memK (mpH false 4 4) (kyO [72] (nmH false))).a + 1 },zeroG⟩:TxX) false) pr_7_3).trans (by kernel_rfl))
theorem pr_7_6:prE (mpH true 4 3) (enR (mpH true 4 3) [75] (enR (mpH true 4 3) [72] (nmH true)).o).o 5 1 (kyO [72] (enR (mpH true 4 3) [72] (nmH true)).p) (enxB (thrE (enR (mpH true 4 3) [72] (nmH true)) (nmH true) false)) (memK (mpH false 4 4) (kyO [72] (nmH false)))=0:=by
 have hl:=of_decide_eq_true ln_7
 have he:(mpH false 4 4)[3]'hl.1=⟨(kyO [72] (nmH false)),(enxB (thrE (enR (mpH true 4 3) [72] (nmH true)) (nmH true) false))⟩:=by kernel_rfl
 rw [cl_7]
 rw [ky_7]
 exact pr_ok st_7 hl.2 hl.1 he (sr_7.trans (ha_r (n:=7) (by decide)).symm) fa_7 fi_7
theorem go_7_6:doR (mpH true 4 3) (txX true (haT true 7) (haS false 8) ⟨1,9,0,0,0,6⟩) ((haT true 7).h + 1) (haT true 7).t=((mpH true 4 4),rep0):=by
 rw [tx_7_6]
 exact (do_12 rfl).trans ((congrArg (opdT (mpH true 4 3) (⟨12,(nmH true),(nmN true),[122,122],(nmN false),[],0,zeroHd,zeroH,zeroPk,[],5,(memK (mpH false 4 4) (kyO [72] (nmH false))),zeroG⟩:TxX) false) pr_7_6).trans (by kernel_rfl))
end Go.Proofs.YtlkkekpcofjbeaaGreatDoor
