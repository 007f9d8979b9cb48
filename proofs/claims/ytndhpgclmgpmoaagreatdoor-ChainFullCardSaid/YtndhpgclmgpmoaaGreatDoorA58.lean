/- law 20: ChainFull -/
import Derived.Test.YtndhpgclmgpmoaaGreatDoorA54
namespace Go.Proofs.YtndhpgclmgpmoaaGreatDoor
open Go Go.RowKit Tw Av
set_option maxRecDepth 100000 in
set_option maxHeartbeats 8000000 in
theorem fnChainFull {sec:Int}{l:List Int}{xs:List AV}{id:Option Value}(hxs:xs=l.map fun (i:Int)=>int i):Ans Tryz.prog GL 5 [int sec,.sl 1 xs id] True (boo true):=⟨fun _=>by
 subst hxs
 have hm:(l.map fun (i:Int)=>(int i:AV)).length=l.length:=llm _
 have hd:=dGn_ok
 have hs0:0<=sec % 16:=by omega
 have hs1:sec % 16 < 16:=by omega
 refine qE Tryz.func5 rfl Tryz.ntmps5 rfl (fun _ hs=>?_)
 refine ac_bnd 1 (fun hbnd=>?_)
 have hbnd:=maxLen_le hbnd
 repeat' first|refine Zz ?_|intro _
 generalize sec % 16=q at *
 refine al_callW (fnDvNew (n:=3 + q) (by omega) (by omega)) (fun u m1 hu=>?_)
 obtain⟨I,rfl,rfl⟩:=hu
 repeat' first|refine Zz ?_|intro _
 have hR0:Ro (dvNew (3 + q)) []:=ro_new (by omega) (by omega)
 refine al_callW (fnOpenR (nm:=[97]) (ky:=[107]) (gen:=dGn) (d:=dGn) rfl (by decide) hR0 (by decide) (by rw [dGn_of];exact dGn_ok) dGn_of) (fun u m1 hu=>?_)
 obtain⟨J,hj1,hj2,rfl,rfl⟩:=hu
 repeat' first|refine Zz ?_|intro _
 obtain⟨⟨⟨⟨gd,gm,v1⟩,gs⟩,gc,v2,v3,v4,v5⟩,hJ⟩:∃ J':ChI,J'=J:=⟨J,rfl⟩
 subst hJ
 dsimp only at hj1 hj2
 refine ac_loop (α:=(Value × Value × Value × Value × Value) × DvX × List BlkX × List Bs × Bool × Nat) (fun z=>[(1,.sl 1 (l.map fun (i:Int)=>(int i:AV)) id),(5,boo true),(6,ptr gc),(8,boo z.2.2.2.2.1),(9,int z.2.2.2.2.2)])
  (fun z=>cpM gd gm gs gc z.1 z.2.1 (slL z.2.2.1) (chL [97] [107] dGn z.2.2.1 z.2.2.2.1 false)) (fun z=>LvN z.2.1 (3 + q) z.2.2.1/\z.2.2.1.length<=z.2.2.2.2.2/\z.2.2.2.2.2<=40/\z.2.2.2.2.2<=l.length/\WsG z.2.2.2.1/\(0 < z.2.2.2.1.length->z.2.2.2.2.1=true)) (fun z=>40 - z.2.2.2.2.2)
  ((v1,v2,v3,v4,v5),dvNew (3 + q),[],[],false,0) ⟨rfl,rfl,rfl,rfl,rfl,trivial⟩ slr ⟨⟨rfl,rfl,hR0⟩,Nat.zero_le _,Nat.zero_le _,Nat.zero_le _,⟨by simp,by simp⟩,by simp⟩ ?_
 rintro⟨⟨w1,w2,w3,w4,w5⟩,x,bs,ws,fl,i⟩ ⟨⟨hn,ha,hR⟩,hbi,h40,hbl,hws,hfl⟩
 dsimp only at hn ha hR hbi h40 hbl hws hfl ⊢
 clear hR0
 by_cases hi:i < l.length
 rotate_left
 ·repeat' first|refine Zz ?_|intro _
  refine reE ?_
  rfl
 by_cases hi2:i < 40
 rotate_left
 ·repeat' first|refine Zz ?_|intro _
  refine reE ?_
  rfl
 have hwl:=hws.l
 have q1:(chL [97] [107] dGn bs ws false).ws.length=ws.length:=rfl
 repeat' first|refine Zz ?_|intro _
 refine al_callW (fnSubmitL (I:=⟨⟨⟨gd,gm,w1⟩,gs⟩,gc,w2,w3,w4,w5⟩) (x:=x) (s:=slL bs) hwl (Nat.le_trans (ty_le l[i]) (by decide))) (fun u m1 hu=>?_)
 rcases hu with⟨hw16,rfl,u5,rfl⟩|⟨hw16,rfl,u5,rfl⟩
 rotate_left
 ·have hft:=hfl (by omega)
  subst hft
  repeat' first|refine Zz ?_|intro _
  refine reE ?_
  rfl
 have hty:=ty_tx l[i]
 generalize tyB l[i]=ty at *
 have hws':WsG (ws++[ty]):=⟨by rw [lla,List.length_singleton];omega,fun s hs=>by
  rcases List.mem_append.1 hs with hs|hs
  ·exact hws.t s hs
  ·rw [List.mem_singleton.1 hs];exact hty⟩
 have hwl':(ws++[ty]).length=ws.length + 1:=by rw [lla];rfl
 generalize ws++[ty]=ws' at *
 have o:=opI_L (nm:=[97]) (ky:=[107]) hd hR.bg
 have e1:=chL_hs (nm:=[97]) (ky:=[107]) (ws:=ws') (dd:=false) hd hR.bg
 have e2:(chL [97] [107] dGn bs ws' false).ms.length=bs.length + 1:=o.ms
 have e3:(chL [97] [107] dGn bs ws' false).hs.length < (chL [97] [107] dGn bs ws' false).ms.length/\(chL [97] [107] dGn bs ws' false).ms.length<=1000000:=by omega
 repeat' first|refine Zz ?_|intro _
 refine al_callEnd [_] _ (fnCutL (I:=⟨⟨⟨gd,gm,w1⟩,gs⟩,gc,w2,w3,w4,u5⟩) hd hR (by omega) hws') (fun u m1 hu=>?_)
 obtain⟨a1,a2,a3,a4,a5,y,s,c,e,r,hc,rfl,rfl⟩:=hu
 cases hc with
 | lost y hy hb=>rw [hb] at ha;cases ha
 | full h=>
  rename_i g13
  refine al_ord (.var g13 33 (dA (stC (chL [97] [107] dGn bs ws' false)))::cpM gd gm gs gc (a1,a2,a3,a4,a5) x (slL bs) (chL [97] [107] dGn bs ws' false)) _ ?_ lpr slr
  have hrl:([]:List Rep).length=0:=rfl
  have hdk:DOk (stC (chL [97] [107] dGn bs ws' false)):=o.st
  have e4:(chL [97] [107] dGn bs ws' false).ws.length=ws.length + 1:=hwl'
  have e5:(chL [97] [107] dGn bs ws' false).dd=false:=rfl
  generalize hcc:chL [97] [107] dGn bs ws' false=c at *
  repeat' first|refine Zz ?_|intro _
  rw [dZ (show ¬ ((c.hs.length:Int)≠c.hs.length) from fun h=>h rfl)]
  repeat' first|refine Zz ?_|intro _
  rw [dZ (show ¬ ((c.ws.length:Int)≠((chL [97] [107] dGn bs ws false).ws.length:Int) + 1) by omega)]
  repeat' first|refine Zz ?_|intro _
  rw [e5]
  repeat' first|refine Zz ?_|intro _
  subst hcc
  refine ae_as 9 (v:=int ((i:Int) + 1)) (v':=int (i + 1:Nat)) (Imp.of_eq rfl) ?_
  refine ae_round ((a1,a2,a3,a4,a5),x,bs,ws',true,i + 1) ⟨rfl,rfl,rfl,rfl,rfl,trivial⟩ ?_ ⟨⟨hn,ha,hR⟩,by dsimp only;omega,by dsimp only;omega,by dsimp only;omega,hws',fun _=>rfl⟩ (by dsimp only;omega)
  exact sbl
 | yes y hy hb hRy=>
  rename_i g13
  refine al_ord (cpM gd gm gs gc (a1,a2,a3,a4,a5) y (slL (bs++[nxB bs ws' i])) (chL [97] [107] dGn (bs++[nxB bs ws' i]) [] false)) _ ?_ lpr (List.sublist_cons_self _ _)
  have e4:=chL_hs (nm:=[97]) (ky:=[107]) (ws:=[]) (dd:=false) hd hRy.bg
  rw [lla,List.length_singleton] at e4
  have e5:(chL [97] [107] dGn (bs++[nxB bs ws' i]) [] false).ws.length=0:=rfl
  have e6:((runR (stC (opC [97] [107] dGn bs)) (nxB bs ws' i)).2.1.map repA).length=ws.length + 1:=by
   rw [llm,<- hwl']
   exact (runL_len ..).1.trans (Nat.zero_add _)
  have e7:(bs++[nxB bs ws' i]).length=bs.length + 1:=by rw [lla];rfl
  generalize (runR (stC (opC [97] [107] dGn bs)) (nxB bs ws' i)).2.1=rr at *
  generalize bs++[nxB bs ws' i]=bs' at *
  generalize hcc:chL [97] [107] dGn bs' [] false=c' at *
  generalize hcd:chL [97] [107] dGn bs ws' false=c at *
  repeat' first|refine Zz ?_|intro _
  subst hcc
  refine ae_as 9 (v:=int ((i:Int) + 1)) (v':=int (i + 1:Nat)) (Imp.of_eq rfl) ?_
  refine ae_round ((a1,a2,a3,a4,a5),y,bs',[],fl,i + 1) ⟨rfl,rfl,rfl,rfl,rfl,trivial⟩ ?_ ⟨⟨hy.trans hn,hb.trans ha,hRy⟩,by dsimp only;omega,by dsimp only;omega,by dsimp only;omega,⟨by simp,by simp⟩,by simp⟩ (by dsimp only;omega)
  repeat (first|exact List.nil_sublist _|exact List.Sublist.refl _|apply List.Sublist.cons_cons|apply List.Sublist.cons)⟩
end Go.Proofs.YtndhpgclmgpmoaaGreatDoor
