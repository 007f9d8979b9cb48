/- . -/
import Derived.Test.YtocpacdnjbjjmaaGreatDoorS44
set_option maxHeartbeats 64000000
namespace Go.Proofs.YtocpacdnjbjjmaaGreatDoor
open Go Go.RowKit Tw Av
structure InR (k:Nat)(x:DvX):Prop where
 a:∀ w∈x.ws,0<=w.1/\w.1<x.n
 l:x.ws.length<=k
theorem InR.up {k j:Nat}{x:DvX}(h:InR k x)(hk:k<=j):InR j x:=⟨h.a,Nat.le_trans h.l hk⟩
theorem InR.wr {k:Nat}{x:DvX}{a:Int}{s:Bs}(h:InR k x):InR (k+1) (K4 x a s).1:=by
 unfold K4;split
 ·exact h.up om
 split
 ·exact h.up om
 rename_i hc;have hh:aQ x a=true:=by
  cases e:aQ x a with
  | true=>rfl
  | false=>exact absurd (.inl e) hc
 have ha:0<=a/\a<x.n:=by unfold aQ at hh;exact of_decide_eq_true hh
 have key:∀ y:DvX,y.ws=x.ws->y.n=x.n->InR (k+1) (bK y (a,s)):=by
  intro y h1 h2;refine⟨?_,?_⟩
  ·intro w hw;rcases List.mem_append.1 (show w∈y.ws++[(a,s)] from hw) with hw|hw
   ·show 0<=w.1/\w.1<y.n;rw[h2];exact h.a w (h1 ▸ hw)
   ·obtain rfl:=List.mem_singleton.1 hw;show 0<=a/\a<y.n;rw[h2];exact ha
  ·show (y.ws++[(a,s)]).length<=k+1;rw[lla,h1,List.length_singleton];have:=h.l;omega
 split
 ·exact key _ rfl rfl
 ·exact key _ rfl rfl
theorem InR.flush {k:Nat}{x:DvX}(h:InR k x):InR k (R5 x).1:=by
 unfold R5;split
 ·exact h
 split
 ·exact⟨h.a,h.l⟩
 ·exact⟨fun w hw=>absurd (show w∈([]:List (Int × Bs)) from hw) sm,Nat.zero_le _⟩
theorem InR.pt:∀ {f k:Nat} {x:DvX} {a:Int} {s:Bs},InR k x->InR (k+f) (iD f x a s).1
 | 0,_,_,_,_,h=>h
 | f+1,k,x,a,s,h=>by
  unfold iD;split
  ·exact h.up om
  split
  ·exact((h.wr).pt (f:=f)).up om
  ·exact(h.wr).up om
theorem InR.cm {k:Nat}{x:DvX}{s:SlX}{r:Bs}(h:InR k x):InR (k+(I5 s.l++y7 r).length+1) (fK x s r).1:=by
 have h1:InR (k+(I5 s.l++y7 r).length) (Y9 x s r).1:=h.pt;have h2:InR (k+(I5 s.l++y7 r).length) (aL x s r).1:=h1.flush;have h3:InR (k+(I5 s.l++y7 r).length+1) (aK x s r).1:=h2.wr;have h4:InR (k+(I5 s.l++y7 r).length+1) (bM x s r).1:=h3.flush;unfold fK;split
 ·exact h.up om
 split
 ·exact h.up om
 split
 ·exact h.up om
 split
 ·exact h1.up om
 split
 ·exact h2.up om
 split
 ·exact h3
 split
 ·exact h4
 ·exact h4
section
variable {nm ky:Bs} {d:List Ent} {bs:List BlkX} {ws:List Bs} {x:DvX}
theorem a0a {y:DvX}{b:BlkX}(h:Ro x bs)(_:bs.length<189)(hg:BsG (bs++[b]))(hy:y.n=x.n)(ho:Old y (F9 bs) (F9 (bs++[b])))(hr:((dR (bs++[b])).length:Int)<=M0 x.n)(k:List Bool)(torn cut:Int) :
  Ro (S9 y k torn cut) bs\/Ro (S9 y k torn cut) (bs++[b]):=by
 have hn:=h.n;obtain⟨f1,f2,f3,f4⟩:=VS (x:=y) (k:=k) (torn:=torn) (cut:=cut) om;have hk:=a5v (k:=k) (torn:=torn) (cut:=cut) ho.1;rcases ho.2 k torn cut with hf|hf
 ·exact .inl ⟨hk,f1,f2,by rw[f3,hy];exact hn,hf,by rw[f3,hy];exact h.rm,h.bg⟩
 ·exact .inr ⟨hk,f1,f2,by rw[f3,hy];exact hn,hf,by rw[f3,hy];exact hr,hg⟩
end
end Go.Proofs.YtocpacdnjbjjmaaGreatDoor

namespace Go.Proofs.YtocpacdnjbjjmaaGreatDoor
open Go Go.RowKit Tw Av Go.Proofs.Tryz
instance c5A {xs:List AV}{id:Option Value}:Ans prog GL 120 [.sl 15 xs id] (xs.length<=1073741824) (.sl 15 xs none):=⟨fun hx=>by
 refine qE func120 rfl ntmps120 rfl (fun _ hs=>?_);repeat' first|refine Wz ?_|intro _
 refine Qa (fun q c hq hc=>?_);repeat' first|refine Wz ?_|intro _
 injection hc with hc
 subst hc;refine qG (fun h=>?_) (fun h=>?_)
 ·have e:=hq h;subst e;repeat' first|refine Wz ?_|intro _
  refine E9 ?_;exact Imp.nilN
 ·repeat' first|refine Wz ?_|intro _
  refine Qv (fun g=>?_);repeat' first|refine Wz ?_|intro _
  refine OU (fun g' c' hc'=>?_);refine wO 7 ?_;refine nL 7 Imp.sl ?_;repeat' first|refine Wz ?_|intro _
  refine d9 ?_;rfl⟩
instance b8v {g gs:Nat}{vm vh ve vt:Value}{c:ChX}:AnsM prog GL 58 g [] 84 (X8 gs vm vh ve vt c) (c.ev.length<=1000000) (.sl 15 (c.ev.map V9) none) (X8 gs vm vh ve vt c):=⟨fun hl=>by
 have hm:(c.ev.map V9).length=c.ev.length:=llm _;refine qE func58 rfl ntmps58 rfl (fun _ hs=>?_);repeat' first|refine Zz ?_|intro _
 apply V8 [];exact rfl;exact rfl;kernel_rfl;kernel_rfl;intro _ _;refine a7w 0 c.ev.length (fun A=>?_);refine j4 (U4 [] [_] rfl rfl lpr rfl ?_);rw[List.drop_zero,List.take_of_length_le om];repeat' first|refine Zz ?_|intro _
 refine o5 _ ⟨rfl,rfl⟩ ?_;repeat (first|exact List.nil_sublist _|exact List.Sublist.refl _|apply List.Sublist.cons_cons|apply List.Sublist.cons)⟩

section
variable {P:Program} {N:Nat} {Q:Exit->Act->World->Prop} {s:Av.Base} {e:Av.Env} {T:List Av.Piece} {gl:List (Nat × AV)} {l os:List Oper} {i:Nat} {rs:List Rec}
theorem LK (T':List Av.Piece)(h:Obl P N Q s gl l os i T' e rs)(hT:T'=T):Obl P N Q s gl l os i T e rs:=hT ▸ h
end
theorem Jw {I:ChI}{x:DvX}{s:SlX}{c:ChX}{t:Int}(hd:c.dd=true):Av.Spec prog GL 14 [ptr I.gc,int t] (O1 I x s c) fun u m=>u=.tup [.sl 3 (([]:List Rep).map J6) none,int 13]/\m=O1 I x s c:=by
 refine qE func14 rfl ntmps14 rfl (fun _ hs=>?_);repeat' first|refine Zz ?_|intro _
 rw[hd];repeat' first|refine Zz ?_|intro _
 refine U8 (.tup [.sl 3 (([]:List Rep).map J6) none,int 13]) (O1 I x s c) ?_ ⟨rfl,rfl⟩ slr;exact MR
theorem Jp {I:R20I}{x:DvX}{s:SlX}{c:ChX}{t:Int}(hd:c.dd=true):Av.Spec prog GL 15 [ptr I.gc,int t] (P6 I x s c) fun u m=>u=.tup [.sl 3 (([]:List Rep).map J6) none,int 13]/\m=P6 I x s c:=by
 refine qE func15 rfl ntmps15 rfl (fun _ hs=>?_);repeat' first|refine Zz ?_|intro _
 rw[hd];repeat' first|refine Zz ?_|intro _
 refine U8 (.tup [.sl 3 (([]:List Rep).map J6) none,int 13]) (P6 I x s c) ?_ ⟨rfl,rfl⟩ slr;exact MR
theorem a4e {I:ChI}{J:R20I}{x y:DvX}{s s':SlX}{c:ChX}(h1:c.hs.length<c.ms.length/\c.ms.length<=100000)(h2:R20Ok c)(hev:c.ev.length<=100000)(hst:(L9 c).length<=2000):Av.Spec prog GL 28 [ptr I.gc,ptr J.gc] (P6 J y s' c++O1 I x s c) fun u m=>u=j3 true/\m=P6 J y s' c++O1 I x s c:=by
 have hm0:c.hs.length<=1000000:=om
 have hm1:c.ms.length<=1000000:=om
 have hms:=h2.ms;have hbl:=h2.bl;have hb0:c.bl.length<=1000000:=by omega
 have hm2:(c.bl.map lG).length=c.bl.length:=llm _;have hm3:(c.ws.map str).length=c.ws.length:=llm _;have htm:=h2.tm;refine qE func28 rfl ntmps28 rfl (fun _ hs=>?_);refine PD (.var I.gc 84 (X8 I.gs I.vm I.vh I.ve I.vt c)::(P6 J y s' c++(O1 I x s c).tail)) _ ?_ List.perm_middle.symm slr;repeat' first|refine Zz ?_|intro _
 rw[hm2,hbl,dT (rfl:(c.hs.length:Int)=c.hs.length)];repeat' first|refine Zz ?_|intro _
 rw[htm,dT (rfl:aW c.bl=aW c.bl)];repeat' first|refine Zz ?_|intro _
 rw[hm3,dT (rfl:(c.ws.length:Int)=c.ws.length)];repeat' first|refine Zz ?_|intro _
 trace_state
 refine jO (P6 J y s' c++O1 I x s c) _ ?_ List.perm_middle slr;exact o5 _ ⟨rfl,rfl⟩ slr
section
variable {nm ky:Bs} {d:List Ent} {bs:List BlkX} {ws:List Bs} {x:DvX}
theorem lL {I:ChI}{J:R20I}{x y:DvX}{s s':SlX}{dd:Bool}(hd:DOk d)(hb:BsG bs):Av.Spec prog GL 28 [ptr I.gc,ptr J.gc] (P6 J y s' (x8 nm ky d bs ws dd)++O1 I x s (x8 nm ky d bs ws dd)) fun u m=>u=j3 true/\m=P6 J y s' (x8 nm ky d bs ws dd)++O1 I x s (x8 nm ky d bs ws dd):=by
 have o:=vQ (nm:=nm) (ky:=ky) hd hb;have h1:=o.hs;have h2:=o.ms;have h3:=o.ev;have hl:=hb.l;refine a4e ?_ (Nh hd hb) ?_ o.st.l
 ·show (opC nm ky d bs).hs.length<(opC nm ky d bs).ms.length/\(opC nm ky d bs).ms.length<=100000;omega
 ·show (opC nm ky d bs).ev.length<=100000;omega
theorem Ha {t:Int}(hd:DOk d)(h:Ro x bs)(hl:bs.length<189)(hw:WsG ws):InR 1000000 (J4 x (F9 bs) (x8 nm ky d bs ws false) t).1:=by
 have h0:InR 0 x:=⟨by rw[h.ws];simp,by rw[h.ws];simp⟩;unfold J4;rw[Mf hd h.bg];refine(h0.cm).up ?_;have h1:=VD (F9 bs).l;have h2:=Cr (K5 (L6 bs ws t));have h3:=NV ((SS h.bg om hw t).g (L6 bs ws t) sm).1;rw[lla];omega
theorem KD {t:Bs}{dd:Bool}(hw:WsG ws)(ht:Tx20 t\/6000<t.length):∃ ws',tZ (x8 nm ky d bs ws dd) t=x8 nm ky d bs ws' dd/\WsG ws':=by
 have e:(x8 nm ky d bs ws dd).ws=ws:=rfl;by_cases h:eG (x8 nm ky d bs ws dd) t=0
 ·refine⟨ws++[t],?_,?_,?_⟩
  ·unfold tZ;rw[if_pos h];rfl
  ·unfold eG at h;rw[e] at h;rw[lla,List.length_singleton];split at h
   ·cases h
   split at h
   ·cases h
   split at h
   ·cases h
   omega
  ·intro s hs;rcases List.mem_append.1 hs with hs|hs
   ·exact hw.t s hs
   ·rw[List.mem_singleton.1 hs];rcases ht with ht|ht
    ·exact ht
    ·exfalso
     unfold eG at h;rw[if_pos ht] at h;split at h <;> cases h
 ·exact⟨ws,by unfold tZ;rw[if_neg h],hw⟩
end
theorem Mo {k:List Bool}{torn cut a:Int}{b:Bool}:∀ (l:List (Int × Bs)) (i:Nat) (x:DvX),iO k torn cut i { x with ar:=b,lf:=a } l={ iO k torn cut i x l with ar:=b,lf:=a }
 | [],_,_=>rfl
 | w::l,i,x=>by
  have e:bD { x with ar:=b,lf:=a } k torn cut i w={ bD x k torn cut i w with ar:=b,lf:=a }:=by
   unfold bD;split <;> rfl
  show iO k torn cut (i+1) (bD { x with ar:=b,lf:=a } k torn cut i w) l={ iO k torn cut (i+1) (bD x k torn cut i w) l with ar:=b,lf:=a };rw[e];exact Mo l (i+1) _
theorem a5Z {x:DvX}{k:List Bool}{torn cut a:Int}(hn:x.n≠0):S9 (nC x a) k torn cut={ S9 x k torn cut with lf:=max a 0 }:=by
 unfold S9 nC;dsimp only;rw[if_neg hn,if_neg hn,Mo]
theorem a0c {x:DvX}{bs:List BlkX}{a:Int}(h:Ro x bs)(ha:0<=a/\a<=1000000):Ro { x with lf:=a } bs:=
 ⟨⟨h.dv.n,h.dv.mn,h.dv.el,h.dv.wl,ha⟩,h.on,h.ws,h.n,h.fit,h.rm,h.bg⟩
theorem a0d {x:DvX}{bs:List BlkX}{k:Int}(h:Ro x bs)(hk:k<=1000):Ro (nC x k) bs:=
 ⟨⟨h.dv.n,h.dv.mn,h.dv.el,h.dv.wl,by show 0<=max k 0/\max k 0<=1000000;omega⟩,h.on,h.ws,h.n,h.fit,h.rm,h.bg⟩
structure OpX where
 k:Int
 n:Int
 torn:Int
 cut:Int
 keep:List Bool
abbrev jC (o:OpX):AV:=.agg 5 [int o.k,int o.n,int o.torn,int o.cut,.sl 1 (o.keep.map j3) none]
def IC (b:Bool):Nat:=if b=true then 1 else 0
def H7 (bs:List BlkX)(dd:Bool):SlX:={ F9 bs with br:=dd }
structure PlS where
 v:V5
 w:V5
 gs:Nat
 gc:Nat
 gl:Nat
 gr:Nat
 x:DvX
 bs:List BlkX
 ws:List Bs
 dd:Bool
 i:Nat
structure PlI (n:Int)(z:PlS):Prop where
 dv:DvOk z.x
 r:InR 1000000 z.x
 n:z.x.n=n
 g:BsG z.bs
 al:z.dd=false->Ro z.x z.bs
 cr:∀ k torn cut,∃ l,Ro (S9 z.x k torn cut) (z.bs++l)/\l.length<=IC z.dd
 bi:z.bs.length+IC z.dd<=z.i
 ws:WsG z.ws
section
variable {n:Int} {v w:V5} {gs gc gl gr i:Nat} {x y:DvX} {bs:List BlkX} {ws:List Bs} {dd:Bool}
theorem AO (h:Ro x bs)(hn:x.n=n)(hb:bs.length<=i)(hw:WsG ws):PlI n ⟨v,w,gs,gc,gl,gr,x,bs,ws,false,i⟩:=
 ⟨h.dv,⟨by rw[h.ws];simp,by rw[h.ws];simp⟩,hn,h.bg,fun _=>h,fun k torn cut=>⟨[],by rw[List.append_nil];exact Bi h,Nat.zero_le _⟩,hb,hw⟩
theorem Dy {t:Int}(h:Ro x bs)(hl:bs.length<189)(hw:WsG ws)(hn:x.n=n)(hy:y.n=x.n)(ho:Old y (F9 bs) (F9 (bs++[L6 bs ws t])))(hr:((dR (bs++[L6 bs ws t])).length:Int)<=M0 x.n)(hin:InR 1000000 y)(hb:bs.length+1<=i):PlI n ⟨v,w,gs,gc,gl,gr,y,bs,ws,true,i⟩:=
 ⟨ho.1,hin,hy.trans hn,h.bg,fun e=>(by cases e),fun k torn cut=>by
  rcases a0a h hl (SS h.bg om hw t) hy ho hr k torn cut with h1|h1
  ·exact⟨[],by rw[List.append_nil];exact h1,Nat.zero_le _⟩
  ·exact⟨[L6 bs ws t],h1,Nat.le_refl _⟩,hb,hw⟩
theorem PlI.arm {k:Int}(h:PlI n ⟨v,w,gs,gc,gl,gr,x,bs,ws,dd,i⟩)(hn:3<=n)(hk:k<=1000):PlI n ⟨v,w,gs,gc,gl,gr,nC x k,bs,ws,dd,i+1⟩:=by
 have hx:x.n=n:=h.n;refine⟨a5x h.dv om,⟨h.r.a,h.r.l⟩,h.n,h.g,fun e=>a0d (h.al e) hk,fun kp torn cut=>?_,Nat.le_succ_of_le h.bi,h.ws⟩;obtain⟨l,h1,h2⟩:=h.cr kp torn cut;refine⟨l,?_,h2⟩;show Ro (S9 (nC x k) kp torn cut) (bs++l);rw[a5Z om];exact a0c h1 om
theorem PlI.sub {ws':List Bs}{v' w':V5}(h:PlI n ⟨v,w,gs,gc,gl,gr,x,bs,ws,dd,i⟩)(hw:WsG ws'):PlI n ⟨v',w',gs,gc,gl,gr,x,bs,ws',dd,i+1⟩:=
 ⟨h.dv,h.r,h.n,h.g,h.al,h.cr,Nat.le_succ_of_le h.bi,hw⟩
end
abbrev plE (gd gd2:Nat)(l:List OpX)(id:Option Value)(z:PlS):List (Nat × AV):=[(1,.sl 5 (l.map jC) id),(5,j3 true),(7,ptr gd),(8,ptr gd2),(9,ptr z.gc),(11,ptr z.gr),(13,int z.i)]
abbrev plM (gd gm gd2 gs2 cc2:Nat)(z:PlS):List Av.Piece:=kW gd2 gs2 cc2 z.gl z.gr z.w z.x (H7 z.bs z.dd) (x8 [97] [107] y9 z.bs z.ws z.dd)++uU gd gm z.gs z.gc z.v z.x (H7 z.bs z.dd) (x8 [97] [107] y9 z.bs z.ws z.dd)

attribute [local irreducible] bI eG
set_option maxRecDepth 100000 in
theorem a4I {sec:Int}{l:List OpX}{xs:List AV}{id:Option Value}(hxs:xs=l.map jC):Ans prog GL 4 [int sec,.sl 5 xs id] True (j3 true):=⟨fun _=>by
 subst hxs;have hm:(l.map jC).length=l.length:=llm _;have hd:=uT;refine qE func4 rfl ntmps4 rfl (fun _ hs=>?_);refine uZ 1 (fun hbnd=>?_);have hbnd:=lJ hbnd;obtain⟨n,hn⟩:∃ n,3+sec%64=n:=⟨_,rfl⟩;have hn3:3<=n/\n<=66:=by omega
 repeat' first|refine Zz ?_|intro _
 rw[hn];refine R6 (UY (n:=n) om om) (fun u m1 hu=>?_);obtain⟨I,rfl,rfl⟩:=hu;repeat' first|refine Zz ?_|intro _
 refine M3 [] _ (by rw[hs];exact Jl (n:=n) om om) (fun u m1 hu=>?_) lpr;obtain⟨J,rfl,rfl⟩:=hu;repeat' first|refine Zz ?_|intro _
 have hR0:Ro (iM n) []:=KJ om om;refine aC (I7 J (iM n)) _ (UW (I:=I) hR0) (fun u m1 hu=>?_);obtain⟨gs,gc,v,rfl,rfl⟩:=hu;repeat' first|refine Zz ?_|intro _
 refine X0 [] (I7 J (iM n)) _ (UR (I:=J) hR0) (fun u m1 hu=>?_);obtain⟨gl,gr,w,rfl,rfl⟩:=hu;repeat' first|refine Zz ?_|intro _
 obtain⟨gd,gm,vd⟩:=I;obtain⟨gd2,gs2,cc2,vd2⟩:=J;dsimp only;refine z8 (α:=PlS) (plE gd gd2 l id) (plM gd gm gd2 gs2 cc2) (fun z=>PlI n z/\z.i<=25/\z.i<=l.length) (fun z=>25-z.i) ⟨v,w,gs,gc,gl,gr,iM n,[],[],false,0⟩
  ⟨rfl,rfl,rfl,rfl,rfl,rfl,rfl,trivial⟩ slr ⟨AO hR0 rfl (Nat.le_refl _) ⟨sm,sm⟩,Nat.zero_le _,Nat.zero_le _⟩ ?_
 clear hR0;rintro⟨⟨v1,v2,v3,v4,v5⟩,⟨w1,w2,w3,w4,w5⟩,gs,gc,gl,gr,x,bs,ws,dd,i⟩ ⟨hI,h25,hil⟩;dsimp only at h25 hil ⊢;by_cases hgo:i<l.length/\i<25
 rotate_left
 ·have hor:¬ i<l.length\/(i<l.length/\¬ i<25):=om
  rcases hor with hk1|⟨hk1,hk2⟩
  ·repeat' first|refine Zz ?_|intro _
   refine d9 ?_;rfl
  ·repeat' first|refine Zz ?_|intro _
   refine d9 ?_;rfl
 obtain⟨hi,hi2⟩:=hgo;have hnx:x.n=n:=hI.n;have hbi:bs.length+IC dd<=i:=hI.bi;have hws:WsG ws:=hI.ws;have hwl:=hws.l;have hbg:BsG bs:=hI.g;repeat' first|refine Zz ?_|intro _
 rename_i g14;refine IR ?_;obtain⟨o,ho⟩:∃ o,l[i]=o:=⟨_,rfl⟩;rw[ho];have ho1:0<=o.n%64/\o.n%64<64:=by omega
 have ho2:0<=o.n%16/\o.n%16<16:=om
 have hmk:(o.keep.map j3).length=o.keep.length:=llm _;obtain hj|hj|hj|hj|hj|hj|hj|hj:o.k%8=0\/o.k%8=1\/o.k%8=2\/o.k%8=3\/o.k%8=4\/o.k%8=5\/o.k%8=6\/o.k%8=7:=om
 ·skip
  rw[hj];repeat' (first|refine iN ?_|refine V7 ?_|refine bZ ?_|refine R9 ?_|intro _)
  refine wR [0,1,2,3,5,6,7,4,8,9,10,11] kr rfl hs kr ?_;repeat' first|refine Zz ?_|intro _
  obtain⟨ws',hsb,hws'⟩:=KD (nm:=[97]) (ky:=[107]) (d:=y9) (bs:=bs) (ws:=ws) (t:=bI o.n) (dd:=dd) hws (.inl (DX o.n));apply V8 [10,11,12,13,14,15,16,17,18];exact rfl;exact rfl;exact rfl;kernel_rfl;intro _ _;refine R6 (GQ (I:=⟨⟨⟨gd,gm,v1⟩,gs⟩,gc,v2,v3,v4,v5⟩) (x:=x) (s:=H7 bs dd) (c:=(x8 [97] [107] y9 bs ws dd)) (t:=bI o.n) (by show ws.length<=1000000;omega)) (fun u m1 hu=>?_);obtain⟨rfl,a5,rfl⟩:=hu;rw[hsb];refine j4 (U4 (O1 ⟨⟨⟨gd,gm,v1⟩,gs⟩,gc,v2,v3,v4,a5⟩ x (H7 bs dd) (x8 [97] [107] y9 bs ws' dd)) [] rfl rfl lpr rfl ?_);refine LK (.var g14 70 (jC o)::(kW gd2 gs2 cc2 gl gr (w1,w2,w3,w4,w5) x (H7 bs dd) (x8 [97] [107] y9 bs ws dd)++uU gd gm gs gc (v1,v2,v3,v4,a5) x (H7 bs dd) (x8 [97] [107] y9 bs ws' dd))) ?_ rfl;repeat' first|refine Zz ?_|intro _
  apply V8 [1,2,3,4,5,6,7,8,9];exact rfl;exact rfl;exact rfl;kernel_rfl;intro _ _;refine R6 (GN (I:=⟨⟨⟨gd2,gs2,cc2,w1⟩,gl⟩,gr,w2,w3,w4,w5⟩) (x:=x) (s:=H7 bs dd) (c:=(x8 [97] [107] y9 bs ws dd)) (t:=bI o.n) (by show ws.length<=1000000;omega)) (fun u m1 hu=>?_);obtain⟨rfl,b5,rfl⟩:=hu;rw[hsb];refine j4 (U4 (P6 ⟨⟨⟨gd2,gs2,cc2,w1⟩,gl⟩,gr,w2,w3,w4,b5⟩ x (H7 bs dd) (x8 [97] [107] y9 bs ws' dd)) [] rfl rfl lpr rfl ?_);repeat' first|refine Zz ?_|intro _
  refine aC [_] _ (lL (nm:=[97]) (ky:=[107]) (d:=y9) (bs:=bs) (ws:=ws') (x:=x) (y:=x) (s:=H7 bs dd) (s':=H7 bs dd) (dd:=dd) (I:=⟨⟨⟨gd,gm,v1⟩,gs⟩,gc,v2,v3,v4,a5⟩) (J:=⟨⟨⟨gd2,gs2,cc2,w1⟩,gl⟩,gr,w2,w3,w4,b5⟩) hd hbg) (fun u m1 hu=>?_);obtain⟨rfl,rfl⟩:=hu;repeat' first|refine Zz ?_|intro _
  refine M6 13 (v:=int ((i:Int)+1)) (v':=int (i+1:Nat)) (Imp.of_eq rfl) ?_;exact o6 (⟨(v1,v2,v3,v4,a5),(w1,w2,w3,w4,b5),gs,gc,gl,gr,x,bs,ws',dd,i+1⟩:PlS) ⟨rfl,rfl,rfl,rfl,rfl,rfl,rfl,trivial⟩ (List.sublist_cons_self _ _) ⟨hI.sub hws',hi2,hi⟩ (by dsimp only;omega)
 ·skip
  rw[hj];repeat' (first|refine iN ?_|refine V7 ?_|refine bZ ?_|refine R9 ?_|intro _)
  refine wR [0,1,2,3,5,6,7,4,8,9,10,11] kr rfl hs kr ?_;repeat' first|refine Zz ?_|intro _
  obtain⟨ws',hsb,hws'⟩:=KD (nm:=[97]) (ky:=[107]) (d:=y9) (bs:=bs) (ws:=ws) (t:=bI o.n) (dd:=dd) hws (.inl (DX o.n));apply V8 [10,11,12,13,14,15,16,17,18];exact rfl;exact rfl;exact rfl;kernel_rfl;intro _ _;refine R6 (GQ (I:=⟨⟨⟨gd,gm,v1⟩,gs⟩,gc,v2,v3,v4,v5⟩) (x:=x) (s:=H7 bs dd) (c:=(x8 [97] [107] y9 bs ws dd)) (t:=bI o.n) (by show ws.length<=1000000;omega)) (fun u m1 hu=>?_);obtain⟨rfl,a5,rfl⟩:=hu;rw[hsb];refine j4 (U4 (O1 ⟨⟨⟨gd,gm,v1⟩,gs⟩,gc,v2,v3,v4,a5⟩ x (H7 bs dd) (x8 [97] [107] y9 bs ws' dd)) [] rfl rfl lpr rfl ?_);refine LK (.var g14 70 (jC o)::(kW gd2 gs2 cc2 gl gr (w1,w2,w3,w4,w5) x (H7 bs dd) (x8 [97] [107] y9 bs ws dd)++uU gd gm gs gc (v1,v2,v3,v4,a5) x (H7 bs dd) (x8 [97] [107] y9 bs ws' dd))) ?_ rfl;repeat' first|refine Zz ?_|intro _
  apply V8 [1,2,3,4,5,6,7,8,9];exact rfl;exact rfl;exact rfl;kernel_rfl;intro _ _;refine R6 (GN (I:=⟨⟨⟨gd2,gs2,cc2,w1⟩,gl⟩,gr,w2,w3,w4,w5⟩) (x:=x) (s:=H7 bs dd) (c:=(x8 [97] [107] y9 bs ws dd)) (t:=bI o.n) (by show ws.length<=1000000;omega)) (fun u m1 hu=>?_);obtain⟨rfl,b5,rfl⟩:=hu;rw[hsb];refine j4 (U4 (P6 ⟨⟨⟨gd2,gs2,cc2,w1⟩,gl⟩,gr,w2,w3,w4,b5⟩ x (H7 bs dd) (x8 [97] [107] y9 bs ws' dd)) [] rfl rfl lpr rfl ?_);repeat' first|refine Zz ?_|intro _
  refine aC [_] _ (lL (nm:=[97]) (ky:=[107]) (d:=y9) (bs:=bs) (ws:=ws') (x:=x) (y:=x) (s:=H7 bs dd) (s':=H7 bs dd) (dd:=dd) (I:=⟨⟨⟨gd,gm,v1⟩,gs⟩,gc,v2,v3,v4,a5⟩) (J:=⟨⟨⟨gd2,gs2,cc2,w1⟩,gl⟩,gr,w2,w3,w4,b5⟩) hd hbg) (fun u m1 hu=>?_);obtain⟨rfl,rfl⟩:=hu;repeat' first|refine Zz ?_|intro _
  refine M6 13 (v:=int ((i:Int)+1)) (v':=int (i+1:Nat)) (Imp.of_eq rfl) ?_;exact o6 (⟨(v1,v2,v3,v4,a5),(w1,w2,w3,w4,b5),gs,gc,gl,gr,x,bs,ws',dd,i+1⟩:PlS) ⟨rfl,rfl,rfl,rfl,rfl,rfl,rfl,trivial⟩ (List.sublist_cons_self _ _) ⟨hI.sub hws',hi2,hi⟩ (by dsimp only;omega)
 ·skip
  rw[hj];repeat' (first|refine iN ?_|refine V7 ?_|refine bZ ?_|refine R9 ?_|intro _)
  refine wR [0,1,2,3,5,6,7,4,8,9,10,11] kr rfl hs kr ?_;repeat' first|refine Zz ?_|intro _
  obtain⟨ws',hsb,hws'⟩:=KD (nm:=[97]) (ky:=[107]) (d:=y9) (bs:=bs) (ws:=ws) (t:=bI o.n) (dd:=dd) hws (.inl (DX o.n));apply V8 [10,11,12,13,14,15,16,17,18];exact rfl;exact rfl;exact rfl;kernel_rfl;intro _ _;refine R6 (GQ (I:=⟨⟨⟨gd,gm,v1⟩,gs⟩,gc,v2,v3,v4,v5⟩) (x:=x) (s:=H7 bs dd) (c:=(x8 [97] [107] y9 bs ws dd)) (t:=bI o.n) (by show ws.length<=1000000;omega)) (fun u m1 hu=>?_);obtain⟨rfl,a5,rfl⟩:=hu;rw[hsb];refine j4 (U4 (O1 ⟨⟨⟨gd,gm,v1⟩,gs⟩,gc,v2,v3,v4,a5⟩ x (H7 bs dd) (x8 [97] [107] y9 bs ws' dd)) [] rfl rfl lpr rfl ?_);refine LK (.var g14 70 (jC o)::(kW gd2 gs2 cc2 gl gr (w1,w2,w3,w4,w5) x (H7 bs dd) (x8 [97] [107] y9 bs ws dd)++uU gd gm gs gc (v1,v2,v3,v4,a5) x (H7 bs dd) (x8 [97] [107] y9 bs ws' dd))) ?_ rfl;repeat' first|refine Zz ?_|intro _
  apply V8 [1,2,3,4,5,6,7,8,9];exact rfl;exact rfl;exact rfl;kernel_rfl;intro _ _;refine R6 (GN (I:=⟨⟨⟨gd2,gs2,cc2,w1⟩,gl⟩,gr,w2,w3,w4,w5⟩) (x:=x) (s:=H7 bs dd) (c:=(x8 [97] [107] y9 bs ws dd)) (t:=bI o.n) (by show ws.length<=1000000;omega)) (fun u m1 hu=>?_);obtain⟨rfl,b5,rfl⟩:=hu;rw[hsb];refine j4 (U4 (P6 ⟨⟨⟨gd2,gs2,cc2,w1⟩,gl⟩,gr,w2,w3,w4,b5⟩ x (H7 bs dd) (x8 [97] [107] y9 bs ws' dd)) [] rfl rfl lpr rfl ?_);repeat' first|refine Zz ?_|intro _
  refine aC [_] _ (lL (nm:=[97]) (ky:=[107]) (d:=y9) (bs:=bs) (ws:=ws') (x:=x) (y:=x) (s:=H7 bs dd) (s':=H7 bs dd) (dd:=dd) (I:=⟨⟨⟨gd,gm,v1⟩,gs⟩,gc,v2,v3,v4,a5⟩) (J:=⟨⟨⟨gd2,gs2,cc2,w1⟩,gl⟩,gr,w2,w3,w4,b5⟩) hd hbg) (fun u m1 hu=>?_);obtain⟨rfl,rfl⟩:=hu;repeat' first|refine Zz ?_|intro _
  refine M6 13 (v:=int ((i:Int)+1)) (v':=int (i+1:Nat)) (Imp.of_eq rfl) ?_;exact o6 (⟨(v1,v2,v3,v4,a5),(w1,w2,w3,w4,b5),gs,gc,gl,gr,x,bs,ws',dd,i+1⟩:PlS) ⟨rfl,rfl,rfl,rfl,rfl,rfl,rfl,trivial⟩ (List.sublist_cons_self _ _) ⟨hI.sub hws',hi2,hi⟩ (by dsimp only;omega)
 ·rw[hj];cases hdd:dd
  ·subst hdd;have hR:Ro x bs:=hI.al rfl;repeat' first|refine Zz ?_|intro _
   refine aC (.var g14 70 (jC o)::kW gd2 gs2 cc2 gl gr (w1,w2,w3,w4,w5) x (F9 bs) (x8 [97] [107] y9 bs ws false)) _ (UU (nm:=[97]) (ky:=[107]) (ws:=ws) (I:=⟨⟨⟨gd,gm,v1⟩,gs⟩,gc,v2,v3,v4,v5⟩) (t:=o.n%64) hd hR om hws) (fun u m1 hu=>?_);obtain⟨rfl,a1,a2,a3,a4,a5,rfl⟩:=hu;repeat' first|refine Zz ?_|intro _
   refine X0 [_] _ _ (UT (nm:=[97]) (ky:=[107]) (ws:=ws) (I:=⟨⟨⟨gd2,gs2,cc2,w1⟩,gl⟩,gr,w2,w3,w4,w5⟩) (t:=o.n%64) hd hR om hws) (fun u m1 hu=>?_);obtain⟨rfl,b1,b2,b3,b4,b5,rfl⟩:=hu;have hc:=NM (nm:=[97]) (ky:=[107]) hd hR om hws (o.n%64);have hin:=Ha (nm:=[97]) (ky:=[107]) (t:=o.n%64) hd hR om hws;generalize (J4 x (F9 bs) (x8 [97] [107] y9 bs ws false) (o.n%64)).1=y at *;generalize (J4 x (F9 bs) (x8 [97] [107] y9 bs ws false) (o.n%64)).2.1=s' at *;generalize (J4 x (F9 bs) (x8 [97] [107] y9 bs ws false) (o.n%64)).2.2=e at *;generalize tC x (F9 bs) (x8 [97] [107] y9 bs ws false) (o.n%64)=c' at *;generalize sZ x (F9 bs) (x8 [97] [107] y9 bs ws false) (o.n%64)=rr at *;have hz:IC false=0:=rfl;rw[hz] at hbi;cases hc with
   | full hf=>
    repeat' first|refine Zz ?_|intro _
    refine aC [_] _ (lL (nm:=[97]) (ky:=[107]) (d:=y9) (bs:=bs) (ws:=ws) (x:=x) (y:=x) (s:=H7 bs false) (s':=H7 bs false) (dd:=false) (I:=⟨⟨⟨gd,gm,a1⟩,gs⟩,gc,a2,a3,a4,a5⟩) (J:=⟨⟨⟨gd2,gs2,cc2,b1⟩,gl⟩,gr,b2,b3,b4,b5⟩) hd hbg) (fun u m1 hu=>?_);obtain⟨rfl,rfl⟩:=hu;repeat' first|refine Zz ?_|intro _
    refine M6 13 (v:=int ((i:Int)+1)) (v':=int (i+1:Nat)) (Imp.of_eq rfl) ?_;exact o6 (⟨(a1,a2,a3,a4,a5),(b1,b2,b3,b4,b5),gs,gc,gl,gr,x,bs,ws,false,i+1⟩:PlS) ⟨rfl,rfl,rfl,rfl,rfl,rfl,rfl,trivial⟩ (List.sublist_cons_self _ _) ⟨AO hR hnx om hws,hi2,hi⟩ (by dsimp only;omega)
   | lost y hy ha hO hr=>
    repeat' first|refine Zz ?_|intro _
    refine aC [_] _ (lL (nm:=[97]) (ky:=[107]) (d:=y9) (bs:=bs) (ws:=ws) (x:=y) (y:=y) (s:=H7 bs true) (s':=H7 bs true) (dd:=true) (I:=⟨⟨⟨gd,gm,a1⟩,gs⟩,gc,a2,a3,a4,a5⟩) (J:=⟨⟨⟨gd2,gs2,cc2,b1⟩,gl⟩,gr,b2,b3,b4,b5⟩) hd hbg) (fun u m1 hu=>?_);obtain⟨rfl,rfl⟩:=hu;repeat' first|refine Zz ?_|intro _
    refine M6 13 (v:=int ((i:Int)+1)) (v':=int (i+1:Nat)) (Imp.of_eq rfl) ?_;exact o6 (⟨(a1,a2,a3,a4,a5),(b1,b2,b3,b4,b5),gs,gc,gl,gr,y,bs,ws,true,i+1⟩:PlS) ⟨rfl,rfl,rfl,rfl,rfl,rfl,rfl,trivial⟩ (List.sublist_cons_self _ _) ⟨Dy hR om hws hnx hy hO hr hin om,hi2,hi⟩ (by dsimp only;omega)
   | yes y hy ha hRy=>
    have e6:(bs++[L6 bs ws (o.n%64)]).length=bs.length+1:=by rw[lla];rfl
    generalize bs++[L6 bs ws (o.n%64)]=bs' at *;repeat' first|refine Zz ?_|intro _
    refine aC [_] _ (lL (nm:=[97]) (ky:=[107]) (d:=y9) (bs:=bs') (ws:=[]) (x:=y) (y:=y) (s:=H7 bs' false) (s':=H7 bs' false) (dd:=false) (I:=⟨⟨⟨gd,gm,a1⟩,gs⟩,gc,a2,a3,a4,a5⟩) (J:=⟨⟨⟨gd2,gs2,cc2,b1⟩,gl⟩,gr,b2,b3,b4,b5⟩) hd hRy.bg) (fun u m1 hu=>?_);obtain⟨rfl,rfl⟩:=hu;repeat' first|refine Zz ?_|intro _
    refine M6 13 (v:=int ((i:Int)+1)) (v':=int (i+1:Nat)) (Imp.of_eq rfl) ?_;exact o6 (⟨(a1,a2,a3,a4,a5),(b1,b2,b3,b4,b5),gs,gc,gl,gr,y,bs',[],false,i+1⟩:PlS) ⟨rfl,rfl,rfl,rfl,rfl,rfl,rfl,trivial⟩ (List.sublist_cons_self _ _) ⟨AO hRy (hy.trans hnx) om ⟨sm,sm⟩,hi2,hi⟩ (by dsimp only;omega)
  ·subst hdd;have hdt:(x8 [97] [107] y9 bs ws true).dd=true:=rfl;repeat' first|refine Zz ?_|intro _
   refine aC (.var g14 70 (jC o)::kW gd2 gs2 cc2 gl gr (w1,w2,w3,w4,w5) x (H7 bs true) (x8 [97] [107] y9 bs ws true)) _ (Jw (I:=⟨⟨⟨gd,gm,v1⟩,gs⟩,gc,v2,v3,v4,v5⟩) (x:=x) (s:=H7 bs true) (t:=o.n%64) hdt) (fun u m1 hu=>?_);obtain⟨rfl,rfl⟩:=hu;repeat' first|refine Zz ?_|intro _
   refine X0 [_] _ _ (Jp (I:=⟨⟨⟨gd2,gs2,cc2,w1⟩,gl⟩,gr,w2,w3,w4,w5⟩) (x:=x) (s:=H7 bs true) (t:=o.n%64) hdt) (fun u m1 hu=>?_);obtain⟨rfl,rfl⟩:=hu;repeat' first|refine Zz ?_|intro _
   refine aC [_] _ (lL (nm:=[97]) (ky:=[107]) (d:=y9) (bs:=bs) (ws:=ws) (x:=x) (y:=x) (s:=H7 bs true) (s':=H7 bs true) (dd:=true) (I:=⟨⟨⟨gd,gm,v1⟩,gs⟩,gc,v2,v3,v4,v5⟩) (J:=⟨⟨⟨gd2,gs2,cc2,w1⟩,gl⟩,gr,w2,w3,w4,w5⟩) hd hbg) (fun u m1 hu=>?_);obtain⟨rfl,rfl⟩:=hu;repeat' first|refine Zz ?_|intro _
   refine M6 13 (v:=int ((i:Int)+1)) (v':=int (i+1:Nat)) (Imp.of_eq rfl) ?_;exact o6 (⟨(v1,v2,v3,v4,v5),(w1,w2,w3,w4,w5),gs,gc,gl,gr,x,bs,ws,true,i+1⟩:PlS) ⟨rfl,rfl,rfl,rfl,rfl,rfl,rfl,trivial⟩ (List.sublist_cons_self _ _) ⟨hI.sub hws,hi2,hi⟩ (by dsimp only;omega)
 ·rw[hj];cases hdd:dd
  ·subst hdd;have hR:Ro x bs:=hI.al rfl;repeat' first|refine Zz ?_|intro _
   refine aC (.var g14 70 (jC o)::kW gd2 gs2 cc2 gl gr (w1,w2,w3,w4,w5) x (F9 bs) (x8 [97] [107] y9 bs ws false)) _ (UU (nm:=[97]) (ky:=[107]) (ws:=ws) (I:=⟨⟨⟨gd,gm,v1⟩,gs⟩,gc,v2,v3,v4,v5⟩) (t:=o.n%64) hd hR om hws) (fun u m1 hu=>?_);obtain⟨rfl,a1,a2,a3,a4,a5,rfl⟩:=hu;repeat' first|refine Zz ?_|intro _
   refine X0 [_] _ _ (UT (nm:=[97]) (ky:=[107]) (ws:=ws) (I:=⟨⟨⟨gd2,gs2,cc2,w1⟩,gl⟩,gr,w2,w3,w4,w5⟩) (t:=o.n%64) hd hR om hws) (fun u m1 hu=>?_);obtain⟨rfl,b1,b2,b3,b4,b5,rfl⟩:=hu;have hc:=NM (nm:=[97]) (ky:=[107]) hd hR om hws (o.n%64);have hin:=Ha (nm:=[97]) (ky:=[107]) (t:=o.n%64) hd hR om hws;generalize (J4 x (F9 bs) (x8 [97] [107] y9 bs ws false) (o.n%64)).1=y at *;generalize (J4 x (F9 bs) (x8 [97] [107] y9 bs ws false) (o.n%64)).2.1=s' at *;generalize (J4 x (F9 bs) (x8 [97] [107] y9 bs ws false) (o.n%64)).2.2=e at *;generalize tC x (F9 bs) (x8 [97] [107] y9 bs ws false) (o.n%64)=c' at *;generalize sZ x (F9 bs) (x8 [97] [107] y9 bs ws false) (o.n%64)=rr at *;have hz:IC false=0:=rfl;rw[hz] at hbi;cases hc with
   | full hf=>
    repeat' first|refine Zz ?_|intro _
    refine aC [_] _ (lL (nm:=[97]) (ky:=[107]) (d:=y9) (bs:=bs) (ws:=ws) (x:=x) (y:=x) (s:=H7 bs false) (s':=H7 bs false) (dd:=false) (I:=⟨⟨⟨gd,gm,a1⟩,gs⟩,gc,a2,a3,a4,a5⟩) (J:=⟨⟨⟨gd2,gs2,cc2,b1⟩,gl⟩,gr,b2,b3,b4,b5⟩) hd hbg) (fun u m1 hu=>?_);obtain⟨rfl,rfl⟩:=hu;repeat' first|refine Zz ?_|intro _
    refine M6 13 (v:=int ((i:Int)+1)) (v':=int (i+1:Nat)) (Imp.of_eq rfl) ?_;exact o6 (⟨(a1,a2,a3,a4,a5),(b1,b2,b3,b4,b5),gs,gc,gl,gr,x,bs,ws,false,i+1⟩:PlS) ⟨rfl,rfl,rfl,rfl,rfl,rfl,rfl,trivial⟩ (List.sublist_cons_self _ _) ⟨AO hR hnx om hws,hi2,hi⟩ (by dsimp only;omega)
   | lost y hy ha hO hr=>
    repeat' first|refine Zz ?_|intro _
    refine aC [_] _ (lL (nm:=[97]) (ky:=[107]) (d:=y9) (bs:=bs) (ws:=ws) (x:=y) (y:=y) (s:=H7 bs true) (s':=H7 bs true) (dd:=true) (I:=⟨⟨⟨gd,gm,a1⟩,gs⟩,gc,a2,a3,a4,a5⟩) (J:=⟨⟨⟨gd2,gs2,cc2,b1⟩,gl⟩,gr,b2,b3,b4,b5⟩) hd hbg) (fun u m1 hu=>?_);obtain⟨rfl,rfl⟩:=hu;repeat' first|refine Zz ?_|intro _
    refine M6 13 (v:=int ((i:Int)+1)) (v':=int (i+1:Nat)) (Imp.of_eq rfl) ?_;exact o6 (⟨(a1,a2,a3,a4,a5),(b1,b2,b3,b4,b5),gs,gc,gl,gr,y,bs,ws,true,i+1⟩:PlS) ⟨rfl,rfl,rfl,rfl,rfl,rfl,rfl,trivial⟩ (List.sublist_cons_self _ _) ⟨Dy hR om hws hnx hy hO hr hin om,hi2,hi⟩ (by dsimp only;omega)
   | yes y hy ha hRy=>
    have e6:(bs++[L6 bs ws (o.n%64)]).length=bs.length+1:=by rw[lla];rfl
    generalize bs++[L6 bs ws (o.n%64)]=bs' at *;repeat' first|refine Zz ?_|intro _
    refine aC [_] _ (lL (nm:=[97]) (ky:=[107]) (d:=y9) (bs:=bs') (ws:=[]) (x:=y) (y:=y) (s:=H7 bs' false) (s':=H7 bs' false) (dd:=false) (I:=⟨⟨⟨gd,gm,a1⟩,gs⟩,gc,a2,a3,a4,a5⟩) (J:=⟨⟨⟨gd2,gs2,cc2,b1⟩,gl⟩,gr,b2,b3,b4,b5⟩) hd hRy.bg) (fun u m1 hu=>?_);obtain⟨rfl,rfl⟩:=hu;repeat' first|refine Zz ?_|intro _
    refine M6 13 (v:=int ((i:Int)+1)) (v':=int (i+1:Nat)) (Imp.of_eq rfl) ?_;exact o6 (⟨(a1,a2,a3,a4,a5),(b1,b2,b3,b4,b5),gs,gc,gl,gr,y,bs',[],false,i+1⟩:PlS) ⟨rfl,rfl,rfl,rfl,rfl,rfl,rfl,trivial⟩ (List.sublist_cons_self _ _) ⟨AO hRy (hy.trans hnx) om ⟨sm,sm⟩,hi2,hi⟩ (by dsimp only;omega)
  ·subst hdd;have hdt:(x8 [97] [107] y9 bs ws true).dd=true:=rfl;repeat' first|refine Zz ?_|intro _
   refine aC (.var g14 70 (jC o)::kW gd2 gs2 cc2 gl gr (w1,w2,w3,w4,w5) x (H7 bs true) (x8 [97] [107] y9 bs ws true)) _ (Jw (I:=⟨⟨⟨gd,gm,v1⟩,gs⟩,gc,v2,v3,v4,v5⟩) (x:=x) (s:=H7 bs true) (t:=o.n%64) hdt) (fun u m1 hu=>?_);obtain⟨rfl,rfl⟩:=hu;repeat' first|refine Zz ?_|intro _
   refine X0 [_] _ _ (Jp (I:=⟨⟨⟨gd2,gs2,cc2,w1⟩,gl⟩,gr,w2,w3,w4,w5⟩) (x:=x) (s:=H7 bs true) (t:=o.n%64) hdt) (fun u m1 hu=>?_);obtain⟨rfl,rfl⟩:=hu;repeat' first|refine Zz ?_|intro _
   refine aC [_] _ (lL (nm:=[97]) (ky:=[107]) (d:=y9) (bs:=bs) (ws:=ws) (x:=x) (y:=x) (s:=H7 bs true) (s':=H7 bs true) (dd:=true) (I:=⟨⟨⟨gd,gm,v1⟩,gs⟩,gc,v2,v3,v4,v5⟩) (J:=⟨⟨⟨gd2,gs2,cc2,w1⟩,gl⟩,gr,w2,w3,w4,w5⟩) hd hbg) (fun u m1 hu=>?_);obtain⟨rfl,rfl⟩:=hu;repeat' first|refine Zz ?_|intro _
   refine M6 13 (v:=int ((i:Int)+1)) (v':=int (i+1:Nat)) (Imp.of_eq rfl) ?_;exact o6 (⟨(v1,v2,v3,v4,v5),(w1,w2,w3,w4,w5),gs,gc,gl,gr,x,bs,ws,true,i+1⟩:PlS) ⟨rfl,rfl,rfl,rfl,rfl,rfl,rfl,trivial⟩ (List.sublist_cons_self _ _) ⟨hI.sub hws,hi2,hi⟩ (by dsimp only;omega)
 ·rw[hj];repeat' first|refine Zz ?_|intro _
  refine aC (.var g14 70 (jC o)::(kW gd2 gs2 cc2 gl gr (w1,w2,w3,w4,w5) x (H7 bs dd) (x8 [97] [107] y9 bs ws dd)++(uU gd gm gs gc (v1,v2,v3,v4,v5) x (H7 bs dd) (x8 [97] [107] y9 bs ws dd)).take 6)) _ (a4D (I:=⟨gd,gm,v1⟩) (x:=x) (k:=o.n%16)) (fun u m1 hu=>?_);obtain⟨rfl,rfl⟩:=hu;repeat' first|refine Zz ?_|intro _
  refine X0 (.var g14 70 (jC o)::(kW gd2 gs2 cc2 gl gr (w1,w2,w3,w4,w5) x (H7 bs dd) (x8 [97] [107] y9 bs ws dd)).take 6) (I7 ⟨gd2,gs2,cc2,w1⟩ x) _ (a4h (I:=⟨gd2,gs2,cc2,w1⟩) (x:=x) (k:=o.n%16)) (fun u m1 hu=>?_);obtain⟨rfl,rfl⟩:=hu;have hIa:=hI.arm (k:=o.n%16) hn3.1 om;generalize nC x (o.n%16)=y at *;repeat' first|refine Zz ?_|intro _
  refine aC [_] _ (lL (nm:=[97]) (ky:=[107]) (d:=y9) (bs:=bs) (ws:=ws) (x:=y) (y:=y) (s:=H7 bs dd) (s':=H7 bs dd) (dd:=dd) (I:=⟨⟨⟨gd,gm,v1⟩,gs⟩,gc,v2,v3,v4,v5⟩) (J:=⟨⟨⟨gd2,gs2,cc2,w1⟩,gl⟩,gr,w2,w3,w4,w5⟩) hd hbg) (fun u m1 hu=>?_);obtain⟨rfl,rfl⟩:=hu;repeat' first|refine Zz ?_|intro _
  refine M6 13 (v:=int ((i:Int)+1)) (v':=int (i+1:Nat)) (Imp.of_eq rfl) ?_;exact o6 (⟨(v1,v2,v3,v4,v5),(w1,w2,w3,w4,w5),gs,gc,gl,gr,y,bs,ws,dd,i+1⟩:PlS) ⟨rfl,rfl,rfl,rfl,rfl,rfl,rfl,trivial⟩ (List.sublist_cons_self _ _) ⟨hIa,hi2,hi⟩ (by dsimp only;omega)
 ·rw[hj];obtain⟨l',hRl,hll⟩:=hI.cr o.keep o.torn o.cut;dsimp only at hRl hll;have hcn:=(VS (x:=x) (k:=o.keep) (torn:=o.torn) (cut:=o.cut) om).2.2.1;have e6:(bs++l').length=bs.length+l'.length:=lla;repeat' first|refine Zz ?_|intro _
  refine IQ (.var g14 70 (jC o)::(I7 ⟨gd2,gs2,cc2,w1⟩ x++F4 ⟨gd,gm,v1⟩ x)) _ ?_ lpr ?_;rotate_left
  ·exact r9
  refine aC (.var g14 70 (jC o)::I7 ⟨gd2,gs2,cc2,w1⟩ x) _ (Ju (I:=⟨gd,gm,v1⟩) (x:=x) (k:=o.keep) (torn:=o.torn) (cut:=o.cut) (id:=none) hI.dv hI.r.a om hI.r.l rfl) (fun u m1 hu=>?_);obtain⟨rfl,a1,rfl⟩:=hu;repeat' first|refine Zz ?_|intro _
  refine X0 [_] (I7 ⟨gd2,gs2,cc2,w1⟩ x) _ (a4g (I:=⟨gd2,gs2,cc2,w1⟩) (x:=x) (k:=o.keep) (torn:=o.torn) (cut:=o.cut) (id:=none) hI.dv hI.r.a om hI.r.l rfl) (fun u m1 hu=>?_);obtain⟨rfl,b1,rfl⟩:=hu;generalize S9 x o.keep o.torn o.cut=y at *;generalize bs++l'=bs' at *;repeat' first|refine Zz ?_|intro _
  refine aC (.var g14 70 (jC o)::I7 ⟨gd2,gs2,cc2,b1⟩ y) _ (UW (I:=⟨gd,gm,a1⟩) hRl) (fun u m1 hu=>?_);obtain⟨gs',gc',⟨v1,v2,v3,v4,v5⟩,rfl,rfl⟩:=hu;repeat' first|refine Zz ?_|intro _
  refine X0 [_] (I7 ⟨gd2,gs2,cc2,b1⟩ y) _ (UR (I:=⟨gd2,gs2,cc2,b1⟩) hRl) (fun u m1 hu=>?_);obtain⟨gl',gr',⟨w1,w2,w3,w4,w5⟩,rfl,rfl⟩:=hu;repeat' first|refine Zz ?_|intro _
  refine aC [_] _ (lL (nm:=[97]) (ky:=[107]) (d:=y9) (bs:=bs') (ws:=[]) (x:=y) (y:=y) (s:=H7 bs' false) (s':=H7 bs' false) (dd:=false) (I:=⟨⟨⟨gd,gm,v1⟩,gs'⟩,gc',v2,v3,v4,v5⟩) (J:=⟨⟨⟨gd2,gs2,cc2,w1⟩,gl'⟩,gr',w2,w3,w4,w5⟩) hd hRl.bg) (fun u m1 hu=>?_);obtain⟨rfl,rfl⟩:=hu;repeat' first|refine Zz ?_|intro _
  refine M6 13 (v:=int ((i:Int)+1)) (v':=int (i+1:Nat)) (Imp.of_eq rfl) ?_;exact o6 (⟨(v1,v2,v3,v4,v5),(w1,w2,w3,w4,w5),gs',gc',gl',gr',y,bs',[],false,i+1⟩:PlS) ⟨rfl,rfl,rfl,rfl,rfl,rfl,rfl,trivial⟩ (List.sublist_cons_self _ _) ⟨AO hRl (hcn.trans hnx) om ⟨sm,sm⟩,hi2,hi⟩ (by dsimp only;omega)
 ·skip
  rw[hj];repeat' (first|refine iN ?_|refine V7 ?_|refine bZ ?_|refine R9 ?_|intro _)
  refine wR [0,1,2,4,5,6,3,7,8,9] kr rfl hs kr ?_;repeat' first|refine Zz ?_|intro _
  apply u7 [];exact rfl;exact rfl;kernel_rfl
  ·intro _ _;refine yV ?_;exact j4 (o7 rfl rfl)
  repeat' first|refine Zz ?_|intro _
  apply u7 [];exact rfl;exact rfl;kernel_rfl
  ·intro _ _;refine yV ?_;exact j4 (o7 rfl rfl)
  repeat' first|refine Zz ?_|intro _
  obtain⟨ws',hsb,hws'⟩:=KD (nm:=[97]) (ky:=[107]) (d:=y9) (bs:=bs) (ws:=ws) (t:=List.replicate 6001 (0:UInt8)) (dd:=dd) hws (.inr (by rw[List.length_replicate];decide));apply V8 [10,11,12,13,14,15,16,17,18];exact rfl;exact rfl;exact rfl;kernel_rfl;intro _ _;refine R6 (GQ (I:=⟨⟨⟨gd,gm,v1⟩,gs⟩,gc,v2,v3,v4,v5⟩) (x:=x) (s:=H7 bs dd) (c:=(x8 [97] [107] y9 bs ws dd)) (t:=List.replicate 6001 (0:UInt8)) (by show ws.length<=1000000;omega)) (fun u m1 hu=>?_);obtain⟨rfl,a5,rfl⟩:=hu;rw[hsb];refine j4 (U4 (O1 ⟨⟨⟨gd,gm,v1⟩,gs⟩,gc,v2,v3,v4,a5⟩ x (H7 bs dd) (x8 [97] [107] y9 bs ws' dd)) [] rfl rfl lpr rfl ?_);refine LK (.var g14 70 (jC o)::(kW gd2 gs2 cc2 gl gr (w1,w2,w3,w4,w5) x (H7 bs dd) (x8 [97] [107] y9 bs ws dd)++uU gd gm gs gc (v1,v2,v3,v4,a5) x (H7 bs dd) (x8 [97] [107] y9 bs ws' dd))) ?_ rfl;repeat' first|refine Zz ?_|intro _
  apply V8 [1,2,3,4,5,6,7,8,9];exact rfl;exact rfl;exact rfl;kernel_rfl;intro _ _;refine R6 (GN (I:=⟨⟨⟨gd2,gs2,cc2,w1⟩,gl⟩,gr,w2,w3,w4,w5⟩) (x:=x) (s:=H7 bs dd) (c:=(x8 [97] [107] y9 bs ws dd)) (t:=List.replicate 6001 (0:UInt8)) (by show ws.length<=1000000;omega)) (fun u m1 hu=>?_);obtain⟨rfl,b5,rfl⟩:=hu;rw[hsb];refine j4 (U4 (P6 ⟨⟨⟨gd2,gs2,cc2,w1⟩,gl⟩,gr,w2,w3,w4,b5⟩ x (H7 bs dd) (x8 [97] [107] y9 bs ws' dd)) [] rfl rfl lpr rfl ?_);repeat' first|refine Zz ?_|intro _
  refine aC [_] _ (lL (nm:=[97]) (ky:=[107]) (d:=y9) (bs:=bs) (ws:=ws') (x:=x) (y:=x) (s:=H7 bs dd) (s':=H7 bs dd) (dd:=dd) (I:=⟨⟨⟨gd,gm,v1⟩,gs⟩,gc,v2,v3,v4,a5⟩) (J:=⟨⟨⟨gd2,gs2,cc2,w1⟩,gl⟩,gr,w2,w3,w4,b5⟩) hd hbg) (fun u m1 hu=>?_);obtain⟨rfl,rfl⟩:=hu;repeat' first|refine Zz ?_|intro _
  refine M6 13 (v:=int ((i:Int)+1)) (v':=int (i+1:Nat)) (Imp.of_eq rfl) ?_;exact o6 (⟨(v1,v2,v3,v4,a5),(w1,w2,w3,w4,b5),gs,gc,gl,gr,x,bs,ws',dd,i+1⟩:PlS) ⟨rfl,rfl,rfl,rfl,rfl,rfl,rfl,trivial⟩ (List.sublist_cons_self _ _) ⟨hI.sub hws',hi2,hi⟩ (by dsimp only;omega)⟩
end Go.Proofs.YtocpacdnjbjjmaaGreatDoor
