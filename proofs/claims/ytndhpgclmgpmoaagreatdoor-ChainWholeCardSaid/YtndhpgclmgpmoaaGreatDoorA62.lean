/- law 20: ChainAgain -/
import Derived.Test.YtndhpgclmgpmoaaGreatDoorA16
import Derived.Test.YtndhpgclmgpmoaaGreatDoorA22
import Derived.Test.YtndhpgclmgpmoaaGreatDoorA43
import Derived.Test.YtndhpgclmgpmoaaGreatDoorA54
namespace Go.Proofs.YtndhpgclmgpmoaaGreatDoor
open Go Go.RowKit Tw Av
instance fnSameR {a:List Rep}{id id2:Option Value}:Ans Tryz.prog GL 25 [.sl 3 (a.map repA) id,.sl 3 (a.map repA) id2] True (boo true):=⟨fun _=>by
 have hma:(a.map repA).length=a.length:=llm _
 refine qE Tryz.func25 rfl Tryz.ntmps25 rfl (fun _ hs=>?_)
 refine ac_bnd 0 (fun hb=>?_)
 have hb:=maxLen_le hb
 repeat' first|refine Zz ?_|intro _
 refine ac_loop (α:=Nat) (fun i=>[(0,.sl 3 (a.map repA) id),(1,.sl 3 (a.map repA) id2),(5,int i)]) (fun _=>[]) (fun i=>i<=a.length) (fun i=>a.length - i) 0 ⟨rfl,rfl,rfl,trivial⟩ slr (Nat.zero_le _) ?_
 intro i hi
 repeat' first|refine Vz ?_|intro _
 refine ac_cond (fun hlt=>?_) (fun hlt=>?_)
 ·have hia:i < a.length:=by omega
  repeat' first|refine Vz ?_|intro _
  exact ae_round (i + 1) ⟨rfl,rfl,rfl,trivial⟩ slr hia (by omega)
 ·repeat' first|refine Vz ?_|intro _
  refine reE ?_
  rfl⟩

abbrev intsA (l:List Int):AV:=.sl 1 (l.map fun (i:Int)=>(int i:AV)) none
theorem fnOpenG {I:DvI}{x:DvX}{bs:List BlkX}(h:Ro x bs):Av.Spec Tryz.prog GL 10 [ptr I.gd,str [97],str [107],.sl 2 (dGn.map entA) none] (dvM I x) fun u m=>∃ gs gc v,u=.tup [ptr gc,int 0]/\m=cpM I.gd I.gm gs gc v x (slL bs) (chL [97] [107] dGn bs [] false):=by
 refine (fnOpenR (nm:=[97]) (ky:=[107]) (gen:=dGn) (d:=dGn) (id:=none) rfl (by decide) h (by decide) (by rw [dGn_of];exact dGn_ok) dGn_of).mono ?_
 rintro u m ⟨J,h1,h2,rfl,rfl⟩
 obtain⟨⟨⟨⟨gd,gm,v1⟩,gs⟩,gc,v2,v3,v4,v5⟩,hJ⟩:∃ J':ChI,J'=J:=⟨J,rfl⟩
 subst hJ
 dsimp only at h1 h2
 subst h1 h2
 exact⟨gs,gc,(v1,v2,v3,v4,v5),rfl,rfl⟩
abbrev V5:=Value × Value × Value × Value × Value
structure Lv2 (x y:DvX)(bs:List BlkX):Prop where
 x:LvN x 1000 bs
 y:LvN y 1000 bs
set_option maxRecDepth 100000 in
set_option maxHeartbeats 16000000 in
theorem fnChainAgain {cuts:List (List Int)}{again:List Int}{xs ys:List AV}{id id2:Option Value}(hxs:xs=cuts.map intsA)(hys:ys=again.map fun (i:Int)=>(int i:AV)):Ans Tryz.prog GL 6 [.sl 1 xs id,.sl 1 ys id2] True (boo true):=⟨fun _=>by
 subst hxs hys
 have hm:(cuts.map intsA).length=cuts.length:=llm _
 have hm2:(again.map fun (i:Int)=>(int i:AV)).length=again.length:=llm _
 have hd:=dGn_ok
 refine qE Tryz.func6 rfl Tryz.ntmps6 rfl (fun _ hs=>?_)
 refine ac_bnd 0 (fun hbnd=>?_)
 have hbnd:=maxLen_le hbnd
 refine ac_bnd 1 (fun hbnd2=>?_)
 have hbnd2:=maxLen_le hbnd2
 repeat' first|refine Zz ?_|intro _
 refine al_callW (fnDvNew (n:=1000) (by decide) (by decide)) (fun u m1 hu=>?_)
 obtain⟨I,rfl,rfl⟩:=hu
 repeat' first|refine Zz ?_|intro _
 have hR0:Ro (dvNew 1000) []:=ro_new (by decide) (by decide)
 refine al_callW (fnOpenG hR0) (fun u m1 hu=>?_)
 obtain⟨gs,gc,v,rfl,rfl⟩:=hu
 repeat' first|refine Zz ?_|intro _
 refine al_callK [] _ (by rw [hs];exact fnDvNew (n:=1000) (by decide) (by decide)) (fun u m1 hu=>?_) lpr
 obtain⟨I2,rfl,rfl⟩:=hu
 repeat' first|refine Zz ?_|intro _
 refine al_callK (dvM I2 (dvNew 1000)) _ (by rw [hs];exact fnOpenG hR0) (fun u m1 hu=>?_) lpr
 obtain⟨gs2,gc2,v2,rfl,rfl⟩:=hu
 repeat' first|refine Zz ?_|intro _
 obtain⟨gd,gm,vd⟩:=I
 obtain⟨gd2,gm2,vd2⟩:=I2
 dsimp only
 refine ac_loop (α:=(Nat × Nat × V5) × V5 × DvX × DvX × List BlkX) (fun z=>[(0,.sl 1 (cuts.map intsA) id),(1,.sl 1 (again.map fun (i:Int)=>(int i:AV)) id2),(5,boo true),(6,ptr gd),(7,ptr z.1.2.1),(9,ptr gc2),(11,int z.2.2.2.2.length)])
  (fun z=>cpM gd2 gm2 gs2 gc2 z.2.1 z.2.2.2.1 (slL z.2.2.2.2) (chL [97] [107] dGn z.2.2.2.2 [] false)++cpM gd gm z.1.1 z.1.2.1 z.1.2.2 z.2.2.1 (slL z.2.2.2.2) (chL [97] [107] dGn z.2.2.2.2 [] false))
  (fun z=>Lv2 z.2.2.1 z.2.2.2.1 z.2.2.2.2/\z.2.2.2.2.length<=6/\z.2.2.2.2.length<=cuts.length/\(lgB z.2.2.2.2).length<=4000 * z.2.2.2.2.length) (fun z=>6 - z.2.2.2.2.length)
  ((gs,gc,v),v2,dvNew 1000,dvNew 1000,[]) ⟨rfl,rfl,rfl,rfl,rfl,rfl,rfl,trivial⟩ slr ⟨⟨⟨rfl,rfl,hR0⟩,⟨rfl,rfl,hR0⟩⟩,Nat.zero_le _,Nat.zero_le _,Nat.le_refl _⟩ ?_
 rintro⟨⟨hs1,hc1,w⟩,w2,x,y,bs⟩ ⟨⟨⟨hn,ha,hR⟩,⟨hn2,ha2,hR2⟩⟩,h6,hbl,hlg⟩
 dsimp only at hn ha hR hn2 ha2 hR2 h6 hbl hlg ⊢
 clear hR0
 by_cases hi:bs.length < cuts.length
 rotate_left
 ·repeat' first|refine Zz ?_|intro _
  refine reE ?_
  rfl
 by_cases hi2:bs.length < 6
 rotate_left
 ·repeat' first|refine Zz ?_|intro _
  refine reE ?_
  rfl
 repeat' first|refine Zz ?_|intro _
 refine ac_loop (α:=(Nat × Nat × V5) × Nat) (fun z=>[(0,.sl 1 (cuts.map intsA) id),(1,.sl 1 (again.map fun (i:Int)=>(int i:AV)) id2),(5,boo true),(6,ptr gd),(7,ptr z.1.2.1),(9,ptr gc2),(11,int bs.length),(12,int z.2)])
  (fun z=>cpM gd2 gm2 gs2 gc2 w2 y (slL bs) (chL [97] [107] dGn bs [] false)++cpM gd gm z.1.1 z.1.2.1 z.1.2.2 x (slL bs) (chL [97] [107] dGn bs [] false))
  (fun z=>z.2<=again.length) (fun z=>again.length - z.2)
  ((hs1,hc1,w),0) ⟨rfl,rfl,rfl,rfl,rfl,rfl,rfl,rfl,trivial⟩ slr (Nat.zero_le _) ?_
 rintro⟨⟨hs1,hc1,w⟩,k⟩ hk
 dsimp only at hk ⊢
 by_cases hka:k < again.length
 ·by_cases hag:again[k]=(bs.length:Int)
  ·repeat' first|refine Zz ?_|intro _
   repeat' first|refine Zz ?_|intro _
   refine al_callEnd (cpM gd2 gm2 gs2 gc2 w2 y (slL bs) (chL [97] [107] dGn bs [] false)++(cpM gd gm hs1 hc1 w x (slL bs) (chL [97] [107] dGn bs [] false)).take 6) _ (fnOpenG (I:=⟨gd,gm,w.1⟩) hR) (fun u m1 hu=>?_)
   obtain⟨gs3,gc3,v3,rfl,rfl⟩:=hu
   refine al_ord (cpM gd2 gm2 gs2 gc2 w2 y (slL bs) (chL [97] [107] dGn bs [] false)++cpM gd gm gs3 gc3 v3 x (slL bs) (chL [97] [107] dGn bs [] false)) _ ?_ lpr (List.Sublist.append_right (List.sublist_append_left _ _) _)
   repeat' first|refine Zz ?_|intro _
   refine ae_as 12 (v:=int ((k:Int) + 1)) (v':=int (k + 1:Nat)) (Imp.of_eq rfl) ?_
   exact ae_round ((gs3,gc3,v3),k + 1) ⟨rfl,rfl,rfl,rfl,rfl,rfl,rfl,rfl,trivial⟩ slr hka (by dsimp only;omega)
  ·repeat' first|refine Zz ?_|intro _
   refine ae_as 12 (v:=int ((k:Int) + 1)) (v':=int (k + 1:Nat)) (Imp.of_eq rfl) ?_
   exact ae_round ((hs1,hc1,w),k + 1) ⟨rfl,rfl,rfl,rfl,rfl,rfl,rfl,rfl,trivial⟩ slr hka (by dsimp only;omega)
 repeat' first|refine Zz ?_|intro _
 clear hk hka
 have hmi:(cuts[bs.length].map fun (i:Int)=>(int i:AV)).length=cuts[bs.length].length:=llm _
 refine ac_loop (α:=V5 × V5 × List Bs) (fun z=>[(0,.sl 1 (cuts.map intsA) id),(1,.sl 1 (again.map fun (i:Int)=>(int i:AV)) id2),(5,boo true),(6,ptr gd),(7,ptr hc1),(9,ptr gc2),(11,int bs.length),(13,int z.2.2.length)])
  (fun z=>cpM gd2 gm2 gs2 gc2 z.2.1 y (slL bs) (chL [97] [107] dGn bs z.2.2 false)++cpM gd gm hs1 hc1 z.1 x (slL bs) (chL [97] [107] dGn bs z.2.2 false))
  (fun z=>z.2.2.length<=3/\z.2.2.length<=cuts[bs.length].length/\WsG z.2.2/\∀ s ∈ z.2.2,s.length<=1000) (fun z=>3 - z.2.2.length)
  (w,w2,[]) ⟨rfl,rfl,rfl,rfl,rfl,rfl,rfl,rfl,trivial⟩ slr ⟨Nat.zero_le _,Nat.zero_le _,⟨by simp,by simp⟩,by simp⟩ ?_
 rintro⟨⟨w1,wb,wc,wd,we⟩,⟨u1,ub,uc,ud,ue⟩,ws⟩ ⟨hw3,hwc,hws,hwl⟩
 dsimp only at hw3 hwc hws hwl ⊢
 by_cases hka:ws.length < cuts[bs.length].length/\ws.length < 3
 ·obtain⟨hka,hk3⟩:=hka
  repeat' first|refine Zz ?_|intro _
  refine al_callEnd _ _ (fnSubmitL (nm:=[97]) (ky:=[107]) (d:=dGn) (bs:=bs) (ws:=ws) (x:=x) (I:=⟨⟨⟨gd,gm,w1⟩,hs1⟩,hc1,wb,wc,wd,we⟩) (s:=slL bs) (by omega) (Nat.le_trans (ty_le cuts[bs.length][ws.length]) (by decide))) (fun u m1 hu=>?_)
  rcases hu with⟨hw16,rfl,u5,rfl⟩|⟨hw16,_⟩
  rotate_left
  ·omega
  repeat' first|refine Zz ?_|intro _
  refine al_callF [] _ _ (fnSubmitL (nm:=[97]) (ky:=[107]) (d:=dGn) (bs:=bs) (ws:=ws) (x:=y) (I:=⟨⟨⟨gd2,gm2,u1⟩,gs2⟩,gc2,ub,uc,ud,ue⟩) (s:=slL bs) (by omega) (Nat.le_trans (ty_le cuts[bs.length][ws.length]) (by decide))) (fun u m1 hu=>?_)
  rcases hu with⟨hw16,rfl,v5,rfl⟩|⟨hw16,_⟩
  rotate_left
  ·omega
  have hty:=ty_tx cuts[bs.length][ws.length]
  have htl:=ty_le cuts[bs.length][ws.length]
  generalize tyB cuts[bs.length][ws.length]=ty at *
  have hwl':(ws++[ty]).length=ws.length + 1:=by rw [lla];rfl
  have hws':WsG (ws++[ty]):=⟨by omega,fun s hs=>by
   rcases List.mem_append.1 hs with hs|hs
   ·exact hws.t s hs
   ·rw [List.mem_singleton.1 hs];exact hty⟩
  have hwz:∀ s ∈ ws++[ty],s.length<=1000:=fun s hs=>by
   rcases List.mem_append.1 hs with hs|hs
   ·exact hwl s hs
   ·rw [List.mem_singleton.1 hs];exact htl
  generalize ws++[ty]=ws' at *
  repeat' first|refine Zz ?_|intro _
  refine ae_as 13 (v:=int ((ws.length:Int) + 1)) (v':=int ws'.length) (Imp.of_eq (by rw [hwl'];rfl)) ?_
  exact ae_round ((w1,wb,wc,wd,u5),(u1,ub,uc,ud,v5),ws') ⟨rfl,rfl,rfl,rfl,rfl,rfl,rfl,rfl,trivial⟩ slr ⟨by dsimp only;omega,by dsimp only;omega,hws',hwz⟩ (by dsimp only;omega)
 ·have hor:¬ ws.length < cuts[bs.length].length\/(ws.length < cuts[bs.length].length/\¬ ws.length < 3):=by omega
  rcases hor with hk1|⟨hk1,hk2⟩
  all_goals
   repeat' first|refine Zz ?_|intro _
   refine al_callEnd _ _ (fnCutL (nm:=[97]) (ky:=[107]) (ws:=ws) (I:=⟨⟨⟨gd,gm,w1⟩,hs1⟩,hc1,wb,wc,wd,we⟩) (t:=(bs.length:Int)) hd hR (by omega) hws) (fun u m1 hu=>?_)
   obtain⟨a1,a2,a3,a4,a5,x',s,c,e,r,hc,rfl,rfl⟩:=hu
   have hrm:roomD x.n=63872:=by rw [hn];rfl
   have hrm2:roomD y.n=63872:=by rw [hn2];rfl
   have hlx:=lg_next (bs:=bs) (ws:=ws) (t:=(bs.length:Int)) hwl
   obtain⟨hxn,hxa,hRx,rfl,rfl,rfl,rfl⟩:=cu_yes hc ha (by rw [hrm];omega) hwl
   clear hc
   repeat' first|refine Zz ?_|intro _
   refine al_callF [] _ _ (fnCutL (nm:=[97]) (ky:=[107]) (ws:=ws) (I:=⟨⟨⟨gd2,gm2,u1⟩,gs2⟩,gc2,ub,uc,ud,ue⟩) (t:=(bs.length:Int)) hd hR2 (by omega) hws) (fun u m1 hu=>?_)
   obtain⟨b1,b2,b3,b4,b5,y',s,c,e,r,hc,rfl,rfl⟩:=hu
   obtain⟨hyn,hya,hRy,rfl,rfl,rfl,rfl⟩:=cu_yes hc ha2 (by rw [hrm2];omega) hwl
   clear hc
   have o:=opI_L (nm:=[97]) (ky:=[107]) hd hRx.bg
   have e1:=chL_hs (nm:=[97]) (ky:=[107]) (ws:=[]) (dd:=false) hd hRx.bg
   have e0:(chL [97] [107] dGn (bs++[nxB bs ws bs.length]) [] false).ms.length=(bs++[nxB bs ws bs.length]).length + 1:=o.ms
   have e4:((chL [97] [107] dGn (bs++[nxB bs ws bs.length]) [] false).hs.length<=1000000/\(chL [97] [107] dGn (bs++[nxB bs ws bs.length]) [] false).ky.length<=1000000)/\∀ y ∈ (chL [97] [107] dGn (bs++[nxB bs ws bs.length]) [] false).hs,y.h<=9223372036854775807/\y.t<=9223372036854775807:=by
    refine⟨⟨by rw [e1,lla,List.length_singleton];omega,?_⟩,hs_bd hRx.bg⟩
    show (opC [97] [107] dGn (bs++[nxB bs ws bs.length])).ky.length<=1000000
    rw [o.ky]
    decide
   clear o
   rw [lla,List.length_singleton] at e1 e0
   have e6:(bs++[nxB bs ws bs.length]).length=bs.length + 1:=by rw [lla];rfl
   generalize (runR (stC (opC [97] [107] dGn bs)) (nxB bs ws bs.length)).2.1=rr at *
   generalize bs++[nxB bs ws bs.length]=bs' at *
   generalize hcc:chL [97] [107] dGn bs' [] false=c at *
   have e3:c.hs.length < c.ms.length/\c.ms.length<=1000000:=by omega
   repeat' first|refine Zz ?_|intro _
   have hcond:1<=(bs.length:Int) + 1/\(bs.length:Int) + 1<=c.hs.length:=by omega
   rw [if_pos hcond]
   generalize hgh:c.hs.getD ((bs.length:Int) + 1 - 1).toNat ⟨[],0,0,zeroH⟩=hh at *
   repeat' first|refine Zz ?_|intro _
   rw [if_pos hcond,hgh]
   repeat' first|refine Zz ?_|intro _
   subst hcc
   refine ae_as 11 (v:=int ((bs.length:Int) + 1)) (v':=int bs'.length) (Imp.of_eq (by rw [e6];rfl)) ?_
   refine ae_round ((hs1,hc1,(a1,a2,a3,a4,a5)),(b1,b2,b3,b4,b5),x',y',bs') ⟨rfl,rfl,rfl,rfl,rfl,rfl,rfl,trivial⟩ ?_ ⟨⟨⟨hxn.trans hn,hxa,hRx⟩,⟨hyn.trans hn2,hya,hRy⟩⟩,by dsimp only;omega,by dsimp only;omega,by dsimp only;omega⟩ (by dsimp only;omega)
   repeat (first|exact List.nil_sublist _|exact List.Sublist.refl _|apply List.Sublist.cons_cons|apply List.Sublist.cons)⟩
end Go.Proofs.YtndhpgclmgpmoaaGreatDoor
