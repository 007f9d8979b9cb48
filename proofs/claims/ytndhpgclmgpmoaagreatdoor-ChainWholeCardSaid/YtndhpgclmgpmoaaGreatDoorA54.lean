/- law 20: ChainTimes -/
import Derived.Test.YtndhpgclmgpmoaaGreatDoorA46
namespace Go.Proofs.YtndhpgclmgpmoaaGreatDoor
open Go Go.RowKit Tw Av
section
variable {nm ky:Bs} {d:List Ent} {bs:List BlkX}
theorem hs_snoc {b:BlkX}:(opC nm ky d (bs++[b])).hs=(opC nm ky d bs).hs++[hdC (opC nm ky d bs) b]:=by
 rw [opC_snoc]
 rfl
theorem hs_last {b:BlkX}{z:Hdr}(hd:DOk d)(hb:BsG bs):(opC nm ky d (bs++[b])).hs.getD bs.length z=hdC (opC nm ky d bs) b:=by
 have h:=(opI_L (nm:=nm) (ky:=ky) hd hb).hs
 rw [hs_snoc,List.getD_eq_getElem?_getD,List.getElem?_append_right (by omega),h,Nat.sub_self]
 rfl
theorem hs_bd (hb:BsG bs):∀ y ∈ (opC nm ky d bs).hs,y.h<=9223372036854775807/\y.t<=9223372036854775807:=by
 have key:∀ l:List BlkX,(∀ b ∈ l,BkG b)->∀ c:ChX,(∀ y ∈ c.hs,y.h<=9223372036854775807/\y.t<=9223372036854775807)->∀ y ∈ (l.foldl donC c).hs,y.h<=9223372036854775807/\y.t<=9223372036854775807:=by
  intro l
  induction l with
  | nil=>exact fun _ c h=>h
  | cons b l ih=>
   intro hl c h
   rw [List.foldl_cons]
   refine ih (fun x hx=>hl x (by simp [hx])) _ ?_
   intro y hy
   rcases List.mem_append.1 (show y ∈ c.hs++[hdC c b] from hy) with hy|hy
   ·exact h y hy
   ·obtain rfl:=List.mem_singleton.1 hy
    have g:=hl b (by simp)
    have g1:=g.h
    have g2:=g.t
    show b.h<=9223372036854775807/\b.t<=9223372036854775807
    omega
 exact key bs (fun b h=>(hb.g b h).1) _ (by simp [iniC])
end

abbrev cpM (gd gm gs gc:Nat)(v:Value × Value × Value × Value × Value)(x:DvX)(s:SlX)(c:ChX):List Av.Piece:=chM ⟨⟨⟨gd,gm,v.1⟩,gs⟩,gc,v.2.1,v.2.2.1,v.2.2.2.1,v.2.2.2.2⟩ x s c
structure LvN (x:DvX)(n:Int)(bs:List BlkX):Prop where
 n:x.n=n
 ar:x.ar=false
 ro:Ro x bs
set_option maxRecDepth 100000 in
set_option maxHeartbeats 4000000 in
theorem fnChainTimes {l:List Int}{xs:List AV}{id:Option Value}(hxs:xs=l.map fun (i:Int)=>int i):Ans Tryz.prog GL 4 [.sl 1 xs id] True (boo true):=⟨fun _=>by
 subst hxs
 have hm:(l.map fun (i:Int)=>(int i:AV)).length=l.length:=llm _
 have hd:=dGn_ok
 refine qE Tryz.func4 rfl Tryz.ntmps4 rfl (fun _ hs=>?_)
 refine ac_bnd 0 (fun hbnd=>?_)
 have hbnd:=maxLen_le hbnd
 repeat' first|refine Zz ?_|intro _
 refine al_callW (fnDvNew (n:=200) (by decide) (by decide)) (fun u m1 hu=>?_)
 obtain⟨I,rfl,rfl⟩:=hu
 repeat' first|refine Zz ?_|intro _
 have hR0:Ro (dvNew 200) []:=ro_new (by decide) (by decide)
 refine al_callW (fnOpenR (nm:=[97]) (ky:=[107]) (gen:=dGn) (d:=dGn) rfl (by decide) hR0 (by decide) (by rw [dGn_of];exact dGn_ok) dGn_of) (fun u m1 hu=>?_)
 obtain⟨J,hj1,hj2,rfl,rfl⟩:=hu
 have e1:=chL_hs (nm:=[97]) (ky:=[107]) (ws:=[]) (dd:=false) hd hR0.bg
 have e2:=chL_tm (nm:=[97]) (ky:=[107]) (ws:=[]) (dd:=false) hd hR0.bg
 rw [List.length_nil] at e1
 rw [show tmL []=0 from rfl] at e2
 generalize hc0:chL [97] [107] dGn [] [] false=c at *
 repeat' first|refine Zz ?_|intro _
 rw [e2]
 repeat' first|refine Zz ?_|intro _
 subst hc0
 obtain⟨⟨⟨⟨gd,gm,v1⟩,gs⟩,gc,v2,v3,v4,v5⟩,hJ⟩:∃ J':ChI,J'=J:=⟨J,rfl⟩
 subst hJ
 dsimp only at hj1 hj2
 refine ac_loop (α:=(Value × Value × Value × Value × Value) × DvX × List BlkX) (fun z=>[(0,.sl 1 (l.map fun (i:Int)=>(int i:AV)) id),(3,boo true),(4,ptr gc),(6,int (tmL z.2.2)),(7,int z.2.2.length)])
  (fun z=>cpM gd gm gs gc z.1 z.2.1 (slL z.2.2) (chL [97] [107] dGn z.2.2 [] false)) (fun z=>LvN z.2.1 200 z.2.2/\z.2.2.length<=20/\z.2.2.length<=l.length/\(lgB z.2.2).length<=44 * z.2.2.length) (fun z=>20 - z.2.2.length)
  ((v1,v2,v3,v4,v5),dvNew 200,[]) ⟨rfl,rfl,rfl,rfl,rfl,trivial⟩ slr ⟨⟨rfl,rfl,hR0⟩,Nat.zero_le _,Nat.zero_le _,Nat.le_refl _⟩ ?_
 rintro⟨⟨w1,w2,w3,w4,w5⟩,x,bs⟩ ⟨⟨hn,ha,hR⟩,h20,hbl,hlg⟩
 dsimp only at hn ha hR h20 hbl hlg ⊢
 clear hR0 e1 e2
 by_cases hi:bs.length < l.length
 rotate_left
 ·repeat' first|refine Zz ?_|intro _
  refine reE ?_
  rfl
 by_cases hi2:bs.length < 20
 rotate_left
 ·repeat' first|refine Zz ?_|intro _
  refine reE ?_
  rfl
 have ht0:0<=l[bs.length] % 64:=by omega
 have ht1:l[bs.length] % 64 < 64:=by omega
 repeat' first|refine Zz ?_|intro _
 generalize l[bs.length] % 64=t at *
 refine ac_mid (α:=Unit) (fun _=>[(0,.sl 1 (l.map fun (i:Int)=>(int i:AV)) id),(3,boo true),(4,ptr gc),(6,int (max t (tmL bs))),(7,int bs.length),(8,int t)])
  (fun _=>cpM gd gm gs gc (w1,w2,w3,w4,w5) x (slL bs) (chL [97] [107] dGn bs [] false)) ?_ (fun _=>?_)
 ·by_cases h:tmL bs < t
  ·rw [show max t (tmL bs)=t by omega]
   repeat' first|refine Zz ?_|intro _
   exact ae_cut () ⟨rfl,rfl,rfl,rfl,rfl,rfl,trivial⟩ slr
  ·rw [show max t (tmL bs)=tmL bs by omega]
   repeat' first|refine Zz ?_|intro _
   exact ae_cut () ⟨rfl,rfl,rfl,rfl,rfl,rfl,trivial⟩ slr
 repeat' first|refine Zz ?_|intro _
 have hw0:WsG []:=⟨by decide,by simp⟩
 refine al_callW (fnCutL (I:=⟨⟨⟨gd,gm,w1⟩,gs⟩,gc,w2,w3,w4,w5⟩) hd hR (by omega) hw0) (fun u m1 hu=>?_)
 obtain⟨a1,a2,a3,a4,a5,y,s,c,e,r,hc,rfl,rfl⟩:=hu
 have hrm:roomD x.n=12672:=by rw [hn];rfl
 have hlx:=lg_next (bs:=bs) (ws:=[]) (t:=t) (by simp)
 obtain⟨hyn,hya,hRy,rfl,rfl,rfl,rfl⟩:=cu_yes hc ha (by rw [hrm,List.length_nil];omega) (by simp)
 have hB:nxB bs [] t=⟨bs.length + 1,max t (tmL bs),[]⟩:=by unfold nxB;rw [show min t 1099511627776=t by omega]
 have hrr:(runR (stC (opC [97] [107] dGn bs)) (nxB bs [] t)).2.1=[]:=by rw [hB];rfl
 rw [hrr]
 clear hc
 have e1:=chL_hs (nm:=[97]) (ky:=[107]) (ws:=[]) (dd:=false) hd hRy.bg
 have e2:=chL_tm (nm:=[97]) (ky:=[107]) (ws:=[]) (dd:=false) hd hRy.bg
 rw [lla,List.length_singleton] at e1
 rw [tmL_snoc,show (nxB bs [] t).t=max t (tmL bs) by rw [hB]] at e2
 have e3:(chL [97] [107] dGn (bs++[nxB bs [] t]) [] false).hs.getD ((bs.length:Int) + 1 - 1).toNat ⟨[],0,0,zeroH⟩=⟨[97],bs.length + 1,max t (tmL bs),(hdC (opC [97] [107] dGn bs) (nxB bs [] t)).r⟩:=by
  rw [show ((bs.length:Int) + 1 - 1).toNat=bs.length by omega]
  refine (hs_last (nm:=[97]) (ky:=[107]) hd hR.bg).trans ?_
  have o:=opI_L (nm:=[97]) (ky:=[107]) hd hR.bg
  unfold hdC
  rw [o.nm,hB]
 have e4:((chL [97] [107] dGn (bs++[nxB bs [] t]) [] false).hs.length<=1000000/\(chL [97] [107] dGn (bs++[nxB bs [] t]) [] false).ky.length<=1000000)/\∀ y ∈ (chL [97] [107] dGn (bs++[nxB bs [] t]) [] false).hs,y.h<=9223372036854775807/\y.t<=9223372036854775807:=by
  have o:=opI_L (nm:=[97]) (ky:=[107]) hd hRy.bg
  refine⟨⟨by omega,?_⟩,hs_bd hRy.bg⟩
  show (opC [97] [107] dGn (bs++[nxB bs [] t])).ky.length<=1000000
  rw [o.ky]
  decide
 have e5:tmL (bs++[nxB bs [] t])=max t (tmL bs):=by rw [tmL_snoc,hB]
 have e6:(bs++[nxB bs [] t]).length=bs.length + 1:=by rw [lla];rfl
 generalize (hdC (opC [97] [107] dGn bs) (nxB bs [] t)).r=rt at *
 generalize bs++[nxB bs [] t]=bs' at *
 generalize hcc:chL [97] [107] dGn bs' [] false=c at *
 generalize hmx:max t (tmL bs)=mx at *
 repeat' first|refine Zz ?_|intro _
 rw [if_pos (show 1<=(bs.length:Int) + 1/\(bs.length:Int) + 1<=c.hs.length by omega),e3]
 repeat' first|refine Zz ?_|intro _
 subst hcc
 have hl0:([]:List Bs).length=0:=rfl
 refine ae_as 6 (v:=int mx) (v':=int (tmL bs')) (Imp.of_eq (by rw [e5])) ?_
 refine ae_as 7 (v:=int ((bs.length:Int) + 1)) (v':=int bs'.length) (Imp.of_eq (by rw [e6];rfl)) ?_
 refine ae_round ((a1,a2,a3,a4,a5),y,bs') ⟨rfl,rfl,rfl,rfl,rfl,trivial⟩ ?_ ⟨⟨hyn.trans hn,hya,hRy⟩,by dsimp only;omega,by dsimp only;omega,by dsimp only;omega⟩ (by dsimp only;omega)
 repeat (first|exact List.nil_sublist _|exact List.Sublist.refl _|apply List.Sublist.cons_cons|apply List.Sublist.cons)⟩
end Go.Proofs.YtndhpgclmgpmoaaGreatDoor
