/- law 20: ChainNames -/
import Derived.Test.YtndhpgclmgpmoaaGreatDoorA45
namespace Go.Proofs.YtndhpgclmgpmoaaGreatDoor
open Go Go.RowKit Tw Av
section
variable {nm ky:Bs} {d:List Ent} {bs:List BlkX} {ws:List Bs} {x:DvX}
theorem fnOpenR {I:DvI}{gen:List Ent}{xs:List AV}{id:Option Value}(hxs:xs=gen.map entA)(hn:1<=nm.length/\nm.length<=32/\ky.length<=64)(h:Ro x bs)(hg:gen.length<=1000)(hd:DOk (dictOf gen))(he:dictOf gen=d) :
  Av.Spec Tryz.prog GL 10 [ptr I.gd,str nm,str ky,.sl 2 xs id] (dvM I x) fun u m=>∃ J:ChI,J.gd=I.gd/\J.gm=I.gm/\u=.tup [ptr J.gc,int 0]/\m=chM J x (slL bs) (chL nm ky d bs [] false):=by
 subst he
 obtain⟨h0,h1,h2⟩:=ro_open h
 have:=fnChOpen (I:=I) (id:=id) hxs hn h.dv (by rw [h.ws];decide) h0 h2 h.bg hg hd
 rw [h1,<- chL_op hd h.bg] at this
 exact this
theorem fnSubmitL {I:ChI}{s:SlX}{t:Bs}(hw:ws.length<=16)(ht:t.length<=6000) :
  Av.Spec Tryz.prog GL 22 [ptr I.gc,str t] (chM I x s (chL nm ky d bs ws false)) fun u m=>(ws.length < 16/\u=int 0/\∃ v,m=chM { I with vt:=v } x s (chL nm ky d bs (ws++[t]) false))\/(ws.length=16/\u=int 15/\∃ v,m=chM { I with vt:=v } x s (chL nm ky d bs ws false)):=by
 refine (fnChSubmit (I:=I) (x:=x) (s:=s) (c:=chL nm ky d bs ws false) (t:=t) (by show ws.length<=1000000;omega)).mono ?_
 rintro u m ⟨rfl,v,rfl⟩
 have e:sbE (chL nm ky d bs ws false) t=if 16<=ws.length then 15 else 0:=by
  unfold sbE
  rw [if_neg (show ¬ (chL nm ky d bs ws false).dd=true from by show ¬ (false=true);decide),if_neg (by omega)]
  rfl
 unfold sbC
 rw [e]
 by_cases hl:16<=ws.length
 ·rw [if_pos hl,if_neg (by decide)]
  exact .inr ⟨by omega,rfl,v,rfl⟩
 ·rw [if_neg hl,if_pos rfl]
  exact .inl ⟨by omega,rfl,v,rfl⟩
theorem fnCutL {I:ChI}{t:Int}(hd:DOk d)(h:Ro x bs)(hl:bs.length < 189)(hw:WsG ws) :
  Av.Spec Tryz.prog GL 19 [ptr I.gc,int t] (chM I x (slL bs) (chL nm ky d bs ws false)) fun u m=>∃ v vm vh ve vt y s c e r,CuS nm ky d x bs ws t y s c e r/\u=.tup [.sl 3 (r.map repA) none,int e]/\m=chM { I with vw:=v,vm:=vm,vh:=vh,ve:=ve,vt:=vt } y s c:=by
 refine (fnChCut (I:=I) (ch_ok (nm:=nm) (ky:=ky) hd h (by omega) hw) rfl (t:=t)).mono ?_
 rintro u m ⟨rfl,v,vm,vh,ve,vt,rfl⟩
 exact⟨v,vm,vh,ve,vt,_,_,_,_,_,cu_spec hd h hl hw t,rfl,rfl⟩
theorem lg_next {t:Int}(h:∀ s ∈ ws,s.length<=1000):(lgB (bs++[nxB bs ws t])).length<=(lgB bs).length + 1004 * ws.length + 44:=by
 rw [lgB_snoc,lla]
 have h1:=recB_le (bkB (nxB bs ws t))
 have h2:=bkB_lenS (nxB bs ws t)
 have h3:=sumB_le h
 have h4:(nxB bs ws t).x=ws:=rfl
 rw [h4] at h2
 omega
theorem cu_yes {t:Int}{y:DvX}{s:SlX}{c:ChX}{e:Int}{r:List Rep}(hc:CuS nm ky d x bs ws t y s c e r)(ha:x.ar=false)(hr:((lgB bs).length:Int) + 1004 * ws.length + 44<=roomD x.n)(hw:∀ s ∈ ws,s.length<=1000) :
  y.n=x.n/\y.ar=false/\Ro y (bs++[nxB bs ws t])/\s=slL (bs++[nxB bs ws t])/\c=chL nm ky d (bs++[nxB bs ws t]) [] false/\e=0/\r=(runR (stC (opC nm ky d bs)) (nxB bs ws t)).2.1:=by
 have hn:=lg_next (bs:=bs) (t:=t) hw
 rw [lgB_snoc,lla] at hn
 cases hc with
 | full h=>omega
 | lost y hy hb=>rw [hb] at ha;cases ha
 | yes y hy hb hR=>exact⟨hy,by rw [hb];exact ha,hR,rfl,rfl,rfl,rfl⟩
theorem ro_crash {k:List Bool}{torn cut:Int}(h:Ro x bs):Ro (dvCrash x k torn cut) bs:=by
 have hn:=h.n
 have e:dvCrash x k torn cut={ x with ws:=[],on:=true,ar:=false }:=by
  unfold dvCrash
  rw [if_neg (by omega),h.ws]
  rfl
 rw [e]
 exact⟨⟨h.dv.n,h.dv.mn,h.dv.el,by simp,h.dv.lf⟩,rfl,rfl,h.n,h.fit,h.rm,h.bg⟩
theorem chL_hs {dd:Bool}(hd:DOk d)(hb:BsG bs):(chL nm ky d bs ws dd).hs.length=bs.length:=(opI_L (nm:=nm) (ky:=ky) hd hb).hs
theorem chL_tm {dd:Bool}(hd:DOk d)(hb:BsG bs):tmC (chL nm ky d bs ws dd)=tmL bs:=(opI_L (nm:=nm) (ky:=ky) hd hb).tm
end
theorem fnCrash0 {I:DvI}{x:DvX}{bs:List BlkX}(h:Ro x bs):Av.Spec Tryz.prog GL 29 [ptr I.gd,nils,int 0,int 0] (dvM I x) fun u m=>u=.tup []/\∃ v y,Ro y bs/\y.n=x.n/\m=dvM { I with vw:=v } y:=by
 have hn:=h.n
 have hq:=fnDvCrash (I:=I) (x:=x) (k:=[]) (torn:=0) (cut:=0) (xs:=[]) (id:=none) h.dv (by rw [h.ws];simp) (by omega) (by rw [h.ws];decide) rfl
 refine (spec_args hq).mono ?_
 rintro u m ⟨rfl,v,rfl⟩
 exact⟨rfl,v,_,ro_crash h,(crash_f (by omega)).2.2.1,rfl⟩
set_option maxRecDepth 100000 in
set_option maxHeartbeats 4000000 in
instance fnAwake20:Ans Tryz.prog GL 9 [] True (boo true):=⟨fun _=>by
 refine qE Tryz.func9 rfl Tryz.ntmps9 rfl (fun _ hs=>?_)
 repeat' first|refine Zz ?_|intro _
 refine al_callW (fnDvNew (n:=200) (by decide) (by decide)) (fun u m1 hu=>?_)
 obtain⟨I,rfl,rfl⟩:=hu
 repeat' first|refine Zz ?_|intro _
 refine al_callW (fnOpenR (nm:=[97]) (ky:=[107]) (gen:=dGn) (d:=dGn) rfl (by decide) (ro_new (by decide) (by decide)) (by decide) (by rw [dGn_of];exact dGn_ok) dGn_of) (fun u m1 hu=>?_)
 obtain⟨J,hj1,hj2,rfl,rfl⟩:=hu
 rw [<- hj1]
 repeat' first|refine Zz ?_|intro _
 refine al_callW (fnSubmitL (by decide) (Nat.le_trans (ty_le 1) (by decide))) (fun u m1 hu=>?_)
 rcases hu with⟨_,rfl,v1,rfl⟩|⟨hu,_⟩
 rotate_left
 ·exact absurd hu (by decide)
 repeat' first|refine Zz ?_|intro _
 have hr0:=ro_new (n:=200) (by decide) (by decide)
 have hw1:WsG [tyB 1]:=⟨by decide,fun s hs=>by rw [List.mem_singleton.1 hs];exact ty_tx 1⟩
 refine al_callW (fnCutL (I:={ J with vt:=v1 }) dGn_ok hr0 (by decide) hw1) (fun u m1 hu=>?_)
 obtain⟨v,vm,vh,ve,vt,y,s,c,e,r,hc,rfl,rfl⟩:=hu
 obtain⟨hyn,hya,hR,rfl,rfl,rfl,rfl⟩:=cu_yes hc rfl (by decide) (fun s hs=>by rw [List.mem_singleton.1 hs];exact ty_le 1)
 repeat' first|refine Zz ?_|intro _
 refine al_callEnd (chM { J with vw:=v,vm:=vm,vh:=vh,ve:=ve,vt:=vt } y (slL _) (chL [97] [107] dGn _ [] false) |>.take 6) _ (fnCrash0 (I:={ J with vw:=v,vm:=vm,vh:=vh,ve:=ve,vt:=vt }.toDvI) hR) (fun u m1 hu=>?_)
 obtain⟨rfl,v2,y2,hR2,hn2,rfl⟩:=hu
 repeat' first|refine Zz ?_|intro _
 refine al_callEnd _ _ (fnOpenR (I:=⟨J.gd,J.gm,v2⟩) (nm:=[97]) (ky:=[107]) (gen:=dGn) (d:=dGn) rfl (by decide) hR2 (by decide) (by rw [dGn_of];exact dGn_ok) dGn_of) (fun u m1 hu=>?_)
 obtain⟨L,hl1,hl2,rfl,rfl⟩:=hu
 have e1:=chL_hs (nm:=[97]) (ky:=[107]) (ws:=[]) (dd:=false) dGn_ok hR2.bg
 have e2:=chL_tm (nm:=[97]) (ky:=[107]) (ws:=[]) (dd:=false) dGn_ok hR2.bg
 have e3:(runR (stC (opC [97] [107] dGn [])) (nxB [] ([]++[tyB 1]) 5)).2.1.length=1:=(runL_len ..).1
 have e4:([]++[nxB [] ([]++[tyB 1]) 5]).length=1:=rfl
 have e5:tmL ([]++[nxB [] ([]++[tyB 1]) 5])=5:=rfl
 rw [e4] at e1
 rw [e5] at e2
 clear hc hr0 hw1
 generalize (runR (stC (opC [97] [107] dGn [])) (nxB [] ([]++[tyB 1]) 5)).2.1=rr at *
 generalize chL [97] [107] dGn ([]++[nxB [] ([]++[tyB 1]) 5]) [] false=c at *
 have e6:(rr.map repA).length=1:=by rw [llm];exact e3
 refine al_ord (chM L y2 _ c) _ ?_ lpr (List.sublist_append_right _ _)
 repeat' first|refine Zz ?_|intro _
 rw [e2]
 refine reE ?_
 rfl⟩

set_option maxRecDepth 100000 in
set_option maxHeartbeats 4000000 in
instance fnChainNames {nm0 ky0:Bs}{sec:Int}:Ans Tryz.prog GL 3 [str nm0,str ky0,int sec] True (boo true):=⟨fun _=>by
 refine qE Tryz.func3 rfl Tryz.ntmps3 rfl (fun _ hs=>?_)
 repeat' first|refine Zz ?_|intro _
 refine ac_mid (α:=Unit) (fun _=>[(0,str (nm0.take 80)),(1,str ky0),(2,int sec),(7,boo true)]) (fun _=>[]) ?_ (fun _=>?_)
 ·by_cases h:(nm0.length:Int) > 80
  ·repeat' first|refine Zz ?_|intro _
   refine al_sliceS 0 80 ?_
   repeat' first|refine Zz ?_|intro _
   exact ae_cut () ⟨rfl,rfl,rfl,rfl,trivial⟩ slr
  ·rw [List.take_of_length_le (by omega)]
   repeat' first|refine Zz ?_|intro _
   exact ae_cut () ⟨rfl,rfl,rfl,rfl,trivial⟩ slr
 repeat' first|refine Zz ?_|intro _
 refine ac_mid (α:=Unit) (fun _=>[(0,str (nm0.take 80)),(1,str (ky0.take 80)),(2,int sec),(7,boo true)]) (fun _=>[]) ?_ (fun _=>?_)
 ·by_cases h:(ky0.length:Int) > 80
  ·repeat' first|refine Zz ?_|intro _
   refine al_sliceS 0 80 ?_
   repeat' first|refine Zz ?_|intro _
   exact ae_cut () ⟨rfl,rfl,rfl,rfl,trivial⟩ slr
  ·rw [show ky0.take 80=ky0 from List.take_of_length_le (by omega)]
   repeat' first|refine Zz ?_|intro _
   exact ae_cut () ⟨rfl,rfl,rfl,rfl,trivial⟩ slr
 have hnl:(nm0.take 80).length<=80:=by rw [List.length_take];omega
 have hkl:(ky0.take 80).length<=80:=by rw [List.length_take];omega
 generalize nm0.take 80=nm at *
 generalize ky0.take 80=ky at *
 have hs0:0<=sec % 8:=by omega
 have hs1:sec % 8 < 8:=by omega
 repeat' first|refine Zz ?_|intro _
 refine al_mask7 ?_
 generalize sec % 8=q at *
 repeat' first|refine Zz ?_|intro _
 refine al_callW (fnDvNew (n:=1 + q) (by omega) (by omega)) (fun u m1 hu=>?_)
 obtain⟨I,rfl,rfl⟩:=hu
 repeat' first|refine Zz ?_|intro _
 have hd:=dGn_ok
 by_cases hg:1<=nm.length/\nm.length<=32/\ky.length<=64
 ·by_cases hn:3<=1 + q
  ·have hS:Av.Spec Tryz.prog GL 10 [ptr I.gd,str nm,str ky,nils] (dvM I (dvNew (1 + q))) _:=spec_args (fnOpenR (nm:=nm) (ky:=ky) (gen:=[]) (d:=[]) (xs:=[]) (id:=none) rfl hg (ro_new (n:=1 + q) hn (by omega)) (by decide) .nil rfl)
   refine al_callW hS (fun u m1 hu=>?_)
   obtain⟨J,hj1,hj2,rfl,rfl⟩:=hu
   have hb0:BsG []:=(ro_new (n:=1 + q) hn (by omega)).bg
   have e1:=chL_hs (nm:=nm) (ky:=ky) (ws:=[]) (dd:=false) .nil hb0
   have e2:(chL nm ky [] [] [] false).nm=nm:=rfl
   have e3:stC (chL nm ky [] [] [] false)=[]:=rfl
   have e4:(chL nm ky [] [] [] false).dd=false:=rfl
   have e5:(chL nm ky [] [] [] false).ms.length=1:=rfl
   rw [List.length_nil] at e1
   generalize chL nm ky [] [] [] false=c at *
   have e6:c.hs.length < c.ms.length/\c.ms.length<=1000000:=by omega
   repeat' first|refine Zz ?_|intro _
   rw [e3]
   repeat' first|refine Zz ?_|intro _
   rw [e4]
   repeat' first|refine Zz ?_|intro _
   refine reE ?_
   rfl
  ·have hS:Av.Spec Tryz.prog GL 10 [ptr I.gd,str nm,str ky,nils] (dvM I (dvNew (1 + q))) _:=spec_args (fnChOpen1 (I:=I) (x:=dvNew (1 + q)) (nm:=nm) (ky:=ky) (xs:=[]) (id:=none) hg (show 1 + q<=2 by omega))
   refine al_callW hS (fun u m1 hu=>?_)
   obtain⟨rfl,rfl⟩:=hu
   repeat' first|refine Zz ?_|intro _
   refine reE ?_
   rfl
 ·have hS:Av.Spec Tryz.prog GL 10 [ptr I.gd,str nm,str ky,nils] [] _:=spec_args (fnChOpenE (dp:=.pointer (some ⟨I.gd,0,none⟩)) (nm:=nm) (ky:=ky) (xs:=[]) (id:=none) rfl hg)
  refine al_callK [] _ (by rw [hs];exact hS) (fun u m1 hu=>?_) lpr
  obtain⟨rfl,rfl⟩:=hu
  by_cases h1:1<=nm.length
  ·by_cases h2:nm.length<=32
   ·have h3:¬ ky.length<=64:=fun h3=>hg ⟨h1,h2,h3⟩
    repeat' first|refine Zz ?_|intro _
    refine reE ?_
    rfl
   ·repeat' first|refine Zz ?_|intro _
    refine reE ?_
    rfl
  ·repeat' first|refine Zz ?_|intro _
   refine reE ?_
   rfl⟩
end Go.Proofs.YtndhpgclmgpmoaaGreatDoor
