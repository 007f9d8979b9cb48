/- . -/
import Derived.Test.YtgcmdlboancepaaGreatDoorQ46
set_option maxHeartbeats 64000000
namespace Go.Proofs.Z
open Go Go.RowKit Tw Av Go.Proofs.Tryz
structure SZ where
 q:SdI
 y:DvX
 bs:List BlkX
 ws:List Bs
abbrev cZ (nm:Bs)(z:SZ):ChX:=y8 nm G7 G5 z.bs z.ws false
abbrev K9 (nm:Bs)(z:SZ):List Av.Piece:=T9 z.q z.y (F3 z.bs) (cZ nm z)
structure SI (N:Nat)(z:SZ):Prop where
 ar:z.y.ar=false
 ro:Ro z.y z.bs
 ws:WsG z.ws
 l:1<=z.bs.length/\z.bs.length<=N
theorem SI.cg {N:Nat}{z:SZ}(h:SI N z)(nm:Bs):CG (cZ nm z):=ZV iZ h.ro.bg h.l.1 dc
def CutTo (t:Int)(z z':SZ):Prop:=z'.y.n=z.y.n/\z'.y.ar=false/\Ro z'.y z'.bs/\(z'.bs=z.bs++[O5 z.bs z.ws t]/\z'.ws=[]\/(z'.bs=z.bs/\z'.ws=z.ws/\M3 z.y.n-(aV z.bs).length<(D9 (M5 (O5 z.bs z.ws t))).length))
def lZ (ws:List Bs)(l:List TxX):List Bs:=l.foldl (λw x=>V4 w (F8 x)) ws
theorem a0S {ws:List Bs}{s:Bs}(h:ws.length<=16):(V4 ws s).length<=16:=by
 unfold V4;split
 ·exact h
 split
 ·exact h
 rw[lla,List.length_singleton];omega
theorem a0i (l:List TxX):∀ {ws:List Bs},ws.length<=16->(lZ ws l).length<=16:=by
 unfold lZ
 induction l with
 | nil=>exact λh=>h
 | cons x l ih=>
  intro ws h;rw[List.foldl_cons];exact ih (a0S h)
theorem Yt {h:Hdr}{m:Hsh}(hh:h.h<=1000)(ht:h.t<=1099511627776):TxW (lV [107] h m)/\TxP (lV [107] h m):=
 have z:(0:Int)<=9223372036854775807:=dc
 ⟨⟨by show (4:Int)<=_;decide,z,by show h.h<=_;omega,by show h.t<=_;omega,z,z,z,z,SQ,MK⟩,Nat.zero_le _,Nat.zero_le _,Nat.zero_le _⟩
theorem a0B {kd n k:Int}(h:0<=k/\k<=1099511627776):TxW (kR kd n k):=
 have z:(0:Int)<=9223372036854775807:=dc
 ⟨by show (13:Int)<=_;decide,z,z,z,z,by show k+2+n / 8%4<=_;omega,z,z,SQ,MK⟩
inductive StS (nz no:Bs)(z o:SZ):SZ->Prop
 | send (kd n k:Int) (hk:A9 (j5 (cZ nz z)) [107]=k) (v w:V5):StS nz no z o ⟨{ z.q with v:=v,w:=w },z.y,z.bs,V4 z.ws (F8 (kR kd n k))⟩
 | head (x:TxX) (hx:x=lV [107] (bG (cZ no o)) (cK (cZ no o).ky (bG (cZ no o)))) (z':SZ) (h:CutTo 0 ⟨z.q,z.y,z.bs,V4 z.ws (F8 x)⟩ z'):StS nz no z o z'
 | none (v w:V5):StS nz no z o ⟨{ z.q with v:=v,w:=w },z.y,z.bs,z.ws⟩
 | one (x:TxX) (h:x∈oO (cZ nz z) (cZ no o) [107]) (v w:V5):StS nz no z o ⟨{ z.q with v:=v,w:=w },z.y,z.bs,V4 z.ws (F8 x)⟩
 | all (l:List TxX) (hl:oO (cZ nz z) (cZ no o) [107]=l) (v w:V5):StS nz no z o ⟨{ z.q with v:=v,w:=w },z.y,z.bs,lZ z.ws l⟩
 | cut (t:Int) (z':SZ) (h:CutTo t z z'):StS nz no z o z'
section
variable {P:Program} {N:Nat} {ops:Array Oper} {Q:Exit->Act->World->Prop} {s:Av.Base} {e:Av.Env} {m:List Av.Piece}
theorem a9B {l':List Oper}(e':Av.Env)(m':List Av.Piece)(h:AL P N ops Q s l' e' m')(he:Av.EK e' e)(hm:m'.Sublist m):AL P N ops Q s l' e m:=AL.mk λok w a hS ha=>h.run ok w a (hS.less hm) (ha.weak he)
end
theorem k8 (k:Int):k%8=0\/k%8=1\/k%8=2\/k%8=3\/k%8=4\/k%8=5\/k%8=6\/k%8=7:=by omega
attribute [local irreducible] A9 dQ gM oO kR F8 bG cK uY M7 V4
section
variable {nz no:Bs} {z o:SZ} {N:Nat} {i sd kd n:Int} {c0 c1 r0 r1:Option Addr}
set_option maxRecDepth 100000 in
theorem QF (hz:SI N z)(ho:SI N o)(hN:N<=180)(hi:(i=0/\c0=E8 z.q.gc/\c1=E8 o.q.gc/\r0=E8 z.q.gr/\r1=E8 o.q.gr)\/(i=1/\c0=E8 o.q.gc/\c1=E8 z.q.gc/\r0=E8 o.q.gr/\r1=E8 z.q.gr))(hsd:sd%2=i) :
  Av.Spec prog GL 8 [.agg 3 [int sd,int kd,int n],Q9 c0 c1 r0 r1] (K9 nz z++K9 no o) λu m=>∃ z',StS nz no z o z'/\(∃ v w,z'.q={ z.q with v:=v,w:=w })/\u=d9 true/\m=K9 nz z'++K9 no o:=by
 have gz:=hz.cg nz;have go:=ho.cg no;obtain⟨cz,hcz⟩:∃ c,cZ nz z=c:=⟨_,rfl⟩;obtain⟨co,hco⟩:∃ c,cZ no o=c:=⟨_,rfl⟩;rw[hcz] at gz;rw[hco] at go;have hSub:∀ (x:TxX) (ws:List Bs) (v w:V5),TxW x->ws.length<=1000000->Av.Spec prog GL 28 [Q9 c0 c1 r0 r1,int i,x9 x] (T9 { z.q with v:=v,w:=w } z.y (F3 z.bs) (y8 nz G7 G5 z.bs ws false)) λu m=>∃ v' w',u=d9 true/\m=T9 { z.q with v:=v',w:=w' } z.y (F3 z.bs) (y8 nz G7 G5 z.bs (V4 ws (F8 x)) false):=λx ws v w hx hw=>by
  rcases hi with⟨rfl,rfl,rfl,rfl,rfl⟩|⟨rfl,rfl,rfl,rfl,rfl⟩
  ·exact XZ { z.q with v:=v,w:=w } (.inl ⟨rfl,rfl,rfl⟩) hx hw
  exact XZ { z.q with v:=v,w:=w } (.inr ⟨rfl,rfl,rfl⟩) hx hw
 have hCut:∀ (t:Int) (ws:List Bs) (v w:V5),WsG ws->Av.Spec prog GL 13 [Q9 c0 c1 r0 r1,int i,int t] (T9 { z.q with v:=v,w:=w } z.y (F3 z.bs) (y8 nz G7 G5 z.bs ws false)) λu m=>∃ v' w' y' bs' ws',(y'.n=z.y.n/\y'.ar=false/\Ro y' bs'/\(bs'=z.bs++[O5 z.bs ws t]/\ws'=[]\/(bs'=z.bs/\ws'=ws/\M3 z.y.n-(aV z.bs).length<(D9 (M5 (O5 z.bs ws t))).length)))/\u=d9 true/\m=T9 { z.q with v:=v',w:=w' } y' (F3 bs') (y8 nz G7 G5 bs' ws' false):=λt ws v w hw=>by
  have hl:=hz.l.2;rcases hi with⟨rfl,rfl,rfl,rfl,rfl⟩|⟨rfl,rfl,rfl,rfl,rfl⟩
  ·exact YA { z.q with v:=v,w:=w } (.inl ⟨rfl,rfl,rfl⟩) iZ hz.ro (show z.bs.length<188 by have:z.bs.length<=N:=hl;omega) hw hz.ar
  exact YA { z.q with v:=v,w:=w } (.inr ⟨rfl,rfl,rfl⟩) iZ hz.ro (show z.bs.length<188 by have:z.bs.length<=N:=hl;omega) hw hz.ar
 have hwl:z.ws.length<=1000000:=Nat.le_trans hz.ws.l dc;have hbz:cz.bl.length<=1000000:=by rw[gz.b];exact gz.q.1.1
 have htz:=gz.tm;have hkg:1<=co.hs.length:=by
  have h1:=go.tb.2.1;have h2:(bG co).h=(co.bl.length:Int):=by unfold bG;rfl
  have h3:=go.b;omega
 have hu1:((co.hs.length<=1000000/\co.ky.length<=1000000)/\∀ y∈co.hs,y.h<=9223372036854775807/\y.t<=9223372036854775807)/\1<=co.hs.length:=⟨go.q,hkg⟩;have hu2:((co.ms.length=co.hs.length+1/\co.ms.length<=1000000)/\DOk (j5 co))/\((1<=co.bl.length/\co.bl.length<=1000000)/\co.ky.length<=1000000/\O4 co.bl<=9223372036854775807):=⟨go.r,⟨by rw[go.b];exact hkg,by rw[go.b];exact go.q.1.1⟩,go.q.1.2,by have:=go.tm.2;omega⟩;have htp:=go.top;obtain⟨hxw0,hxp0⟩:=Yt (m:=cK co.ky (bG co)) go.tb.1 (by rw[go.tb.2.2];exact go.tm.2);obtain⟨xu,hxu⟩:∃ x,lV [107] (bG co) (cK co.ky (bG co))=x:=⟨_,rfl⟩;have hxk:xu.k=4:=by rw[<- hxu];rfl
 rw[hxu] at hxw0 hxp0;have hxw:=hxw0;have hxp:=hxp0;have hxs:WsG (V4 z.ws (F8 xu)):=JI hz.ws λhl=>⟨hl,λhe=>by rw[Fs (by rw[hxk];decide) he,hxk];exact .inr (.inl rfl)⟩;have hk:=Mg (j5 cz) [107];have hpz:=Jj gz go (i:=[107]);have hRC:=a5Q (ga:=z.q.gr) (gb:=o.q.gr) (gs0:=z.q.gl) (gs1:=o.q.gl) (a1:=z.q.w.2.1) (a2:=z.q.w.2.2.1) (a3:=z.q.w.2.2.2.1) (a4:=z.q.w.2.2.2.2) (b1:=o.q.w.2.1) (b2:=o.q.w.2.2.1) (b3:=o.q.w.2.2.2.1) (b4:=o.q.w.2.2.2.2) (i:=[107]) gz.r (by rw[gz.b];exact gz.q.1.1) go.r.1.2 go.m go.v (λv hv=>by have:=(go.g v hv).x.q;omega);have hRB:=a5R (ga:=z.q.gr) (gb:=o.q.gr) (gs0:=z.q.gl) (gs1:=o.q.gl) (a1:=z.q.w.2.1) (a2:=z.q.w.2.2.1) (a3:=z.q.w.2.2.2.1) (a4:=z.q.w.2.2.2.2) (b1:=o.q.w.2.1) (b2:=o.q.w.2.2.1) (b3:=o.q.w.2.2.2.1) (b4:=o.q.w.2.2.2.2) (i:=[107]) gz.r gz.v (λv hv=>⟨by have:=(gz.g v hv).x.q;omega,gz.h v hv⟩) (by rw[go.b];exact go.q.1.1) go.r.1.2 go.m go.v;have hdl:∀ d∈co.ms,d.length<=1000000:=λd hd=>Nat.le_trans (go.m d hd).l dc;have hPC:=Qc (ga:=z.q.gc) (gb:=o.q.gc) (gs0:=z.q.gs) (gs1:=o.q.gs) (a1:=z.q.v.2.1) (a2:=z.q.v.2.2.1) (a3:=z.q.v.2.2.2.1) (a4:=z.q.v.2.2.2.2) (b1:=o.q.v.2.1) (b2:=o.q.v.2.2.1) (b3:=o.q.v.2.2.2.1) (b4:=o.q.v.2.2.2.2) (i:=[107]) gz.k go.k.1.2 hdl go.v (λv hv=>by have:=(go.g v hv).x.q;omega);have hPB:=Qe (ga:=z.q.gc) (gb:=o.q.gc) (gs0:=z.q.gs) (gs1:=o.q.gs) (a1:=z.q.v.2.1) (a2:=z.q.v.2.2.1) (a3:=z.q.v.2.2.2.1) (a4:=z.q.v.2.2.2.2) (b1:=o.q.v.2.1) (b2:=o.q.v.2.2.1) (b3:=o.q.v.2.2.2.1) (b4:=o.q.v.2.2.2.2) (i:=[107]) gz.k gz.v (λv hv=>(gz.g v hv).x.n) go.q go.k.1.2 hdl go.v (λv hv=>(go.g v hv).x.n);have hPP:=QG (ga:=z.q.gc) (gb:=o.q.gc) (gs0:=z.q.gs) (gs1:=o.q.gs) (a1:=z.q.v.2.1) (a2:=z.q.v.2.2.1) (a3:=z.q.v.2.2.2.1) (a4:=z.q.v.2.2.2.2) (b1:=o.q.v.2.1) (b2:=o.q.v.2.2.1) (b3:=o.q.v.2.2.2.1) (b4:=o.q.v.2.2.2.2) (i:=[107]) gz.k gz.v (λv hv=>(gz.g v hv).x.n) go.q go.k.1.2 hdl go.v (λv hv=>(go.g v hv).x.n) (λv hv=>by have:=(go.g v hv).x.q;omega);rw[gz.b,<- gz.t] at hRC;rw[<- go.tk] at hRB;have hpl:oO cz co [107]=dQ (j5 cz) (K4 co (A9 (j5 cz) [107])) (cz.hs.length+1) (X7 cz) (A9 (j5 cz) [107]) (O9 co.ev (A9 (j5 cz) [107]))++gM (j5 cz) (K4 co (A9 (j5 cz) [107])) (bU co.ev) (A9 (j5 cz) [107]) (qI co (A9 (j5 cz) [107])) (O9 cz.ev cz.hs.length):=by
  unfold oO;rfl
 have hl1:=Nat.le_trans (LC (e:=j5 cz) (d:=K4 co (A9 (j5 cz) [107])) (h:=cz.hs.length+1) (t:=X7 cz) (k:=A9 (j5 cz) [107]) (O9 co.ev (A9 (j5 cz) [107]))) (Nat.le_trans (yZ _ _) go.v);have hl2:=Nat.le_trans (LV (e:=j5 cz) (d:=K4 co (A9 (j5 cz) [107])) (A:=bU co.ev) (k:=A9 (j5 cz) [107]) (o:=qI co (A9 (j5 cz) [107])) (O9 cz.ev cz.hs.length)) (Nat.le_trans (yZ _ _) gz.v);generalize hL1:dQ (j5 cz) (K4 co (A9 (j5 cz) [107])) (cz.hs.length+1) (X7 cz) (A9 (j5 cz) [107]) (O9 co.ev (A9 (j5 cz) [107]))=L1 at hRC hPC hPP hpl hl1;generalize hL2:gM (j5 cz) (K4 co (A9 (j5 cz) [107])) (bU co.ev) (A9 (j5 cz) [107]) (qI co (A9 (j5 cz) [107])) (O9 cz.ev cz.hs.length)=L2 at hRB hPB hPP hpl hl2;rw[hpl] at hpz;obtain⟨L,hL⟩:∃ L,L=L1++L2:=⟨_,rfl⟩;have hL1z:L1.length<=1000000000/\∀ x∈L1,TxP x:=⟨om,λx hx=>(hpz x (List.mem_append_left _ hx)).1.p⟩;have hL2z:L2.length<=1000000000/\∀ x∈L2,TxP x:=⟨om,λx hx=>(hpz x (List.mem_append_right _ hx)).1.p⟩;have hLz:(L1++L2).length<=1000000000/\∀ x∈L1++L2,TxP x:=⟨by rw[lla];omega,λx hx=>(hpz x hx).1.p⟩;dsimp only[K9];rw[hcz,hco];have k1:=gz.k;have k2:=gz.r;have kzl:=go.tb;rcases hi with⟨rfl,e1,e2,e3,e4⟩|⟨rfl,e1,e2,e3,e4⟩
 all_goals
  rw[e1,e2,e3,e4];refine ze func8 ntmps8 λ_ hs=>?_;repeat' first|refine Z ?_|intro
  rw[hsd];repeat' first|refine Z ?_|intro
  apply zf [2,20];exact zi
  ·intro _ _;refine R7 hRC (λu m1 hu=>?_);obtain⟨rfl,rfl⟩:=hu;exact j3 (p9 rfl rfl)
  repeat' first|refine Z ?_|intro
  apply zf [2,20];exact zi
  ·intro _ _;refine R7 hRB (λu m1 hu=>?_);obtain⟨rfl,rfl⟩:=hu;exact j3 (p9 rfl rfl)
  repeat' first|refine Z ?_|intro
  refine dF 50 (Imp.nil (k:=100)) ?_;refine fF (λok w h=>h.full 57 100 none 0) ?_;repeat' first|refine Z ?_|intro
  refine H7 (λy1=>?_);repeat' first|refine Z ?_|intro
  refine H7 (λy2=>?_);rw[List.nil_append,<- List.map_append];repeat' first|refine Z ?_|intro
  apply zf [12,30];exact zi
  ·intro _ _;refine R7 hPC (λu m1 hu=>?_);obtain⟨y3,rfl,rfl⟩:=hu;refine dF 65 (v':=.sl 100 (L1.map x9) none) Imp.sl ?_;refine j3 (dW [.var z.q.gc 113 (y7 z.q.gs z.q.v.2.1 z.q.v.2.2.1 z.q.v.2.2.2.1 z.q.v.2.2.2.2 cz),.var o.q.gc 113 (y7 o.q.gs o.q.v.2.1 o.q.v.2.2.1 o.q.v.2.2.2.1 o.q.v.2.2.2.2 co)] _ ?_ lpr (List.sublist_cons_self _ _));exact p9 rfl rfl
  repeat' first|refine Z ?_|intro
  apply zf [12,30];exact zi
  ·intro _ _;refine R7 hPB (λu m1 hu=>?_);obtain⟨rfl,rfl⟩:=hu;exact j3 (p9 rfl rfl)
  repeat' first|refine Z ?_|intro
  apply zf [12,30];exact zi
  ·intro _ _;refine R7 hPP (λu m1 hu=>?_);obtain⟨rfl,rfl⟩:=hu;exact j3 (p9 rfl rfl)
  repeat' first|refine Z ?_|intro
  rename_i gS gP;rw[<- hL];rw[<- hL] at hpl hpz hLz;generalize hkk:A9 (j5 cz) [107]=k at *;subst hcz hco;rw[<- e1,<- e2,<- e3,<- e4];refine a9B [(112,int kd),(2,ptr gS),(3,ptr gP),(5,int _),(6,int k),(9,.sl 100 (L.map x9) (some y2))] (.var gP 29 (Q9 c0 c1 r0 r1)::.var gS 33 (.agg 3 [int sd,int kd,int n])::(T9 z.q z.y (F3 z.bs) (y8 nz G7 G5 z.bs z.ws false)++T9 o.q o.y (F3 o.bs) (y8 no G7 G5 o.bs o.ws false))) ?_ zc (List.sublist_cons_self _ _);clear hPC hPB hPP hRC hRB hL1 hL2;refine RO ?_;obtain hj|hj|hj|hj|hj|hj|hj|hj:=k8 kd
  iterate 3
   (focus
    rw[hj];repeat' first|refine Z ?_|intro
    apply U2 [2,3,4,5,6,7,8,9,10,11,12,13,14,15,16,17,18,19]
    ·exact rfl
    ·exact rfl
    ·exact rfl
    ·kernel_rfl
    intro _ _;refine R7 (hSub (kR kd n k) z.ws z.q.v z.q.w (a0B hk) hwl) (λu m1 hu=>?_);obtain⟨v',w',rfl,rfl⟩:=hu;refine j3 (N7 (T9 { z.q with v:=v',w:=w' } z.y (F3 z.bs) (y8 nz G7 G5 z.bs (V4 z.ws (F8 (kR kd n k))) false)) [] rfl rfl lpr rfl ?_);refine oQ (.var gP 29 (Q9 c0 c1 r0 r1)::.var gS 33 (.agg 3 [int sd,int kd,int n])::(T9 { z.q with v:=v',w:=w' } z.y (F3 z.bs) (y8 nz G7 G5 z.bs (V4 z.ws (F8 (kR kd n k))) false)++T9 o.q o.y (F3 o.bs) (y8 no G7 G5 o.bs o.ws false))) ?_ kr;repeat' first|refine Z ?_|intro
    exact l9 (K9 nz ⟨{ z.q with v:=v',w:=w' },z.y,z.bs,V4 z.ws (F8 (kR kd n k))⟩++K9 no o) ⟨⟨{ z.q with v:=v',w:=w' },z.y,z.bs,V4 z.ws (F8 (kR kd n k))⟩,StS.send kd n k hkk v' w',⟨v',w',rfl⟩,rfl,rfl⟩ (List.Sublist.cons _ (List.sublist_cons_self _ _)))
  rotate_left 1
  ·rw[hj];repeat' first|refine Z ?_|intro
   first|refine dF 131 (v:=.lit (.pointer c1)) (v':=ptr o.q.gc) (Imp.of_eq (by rw[e2])) ?_|refine dF 131 (v:=.lit (.pointer c0)) (v':=ptr o.q.gc) (Imp.of_eq (by rw[e1])) ?_
   refine aY ?_;rw[htp,hxu];repeat' first|refine Z ?_|intro
   first|refine dF 140 (v:=.lit (.pointer r1)) (v':=ptr o.q.gr) (Imp.of_eq (by rw[e4])) ?_|refine dF 140 (v:=.lit (.pointer r0)) (v':=ptr o.q.gr) (Imp.of_eq (by rw[e3])) ?_
   refine aY ?_;rw[hxu];repeat' first|refine Z ?_|intro
   rename_i g13 g15;refine iN [_,_,_,_] _ _ (hSub xu z.ws z.q.v z.q.w hxw hwl) (λu m1 hu=>?_);obtain⟨v',w',rfl,rfl⟩:=hu;repeat' first|refine Z ?_|intro
   refine iN [_,_,_,_] _ _ (hCut 0 (V4 z.ws (F8 xu)) v' w' hxs) (λu m1 hu=>?_);obtain⟨v2,w2,y',bs',ws',hc,rfl,rfl⟩:=hu;repeat' first|refine Z ?_|intro
   exact l9 (K9 nz ⟨{ z.q with v:=v2,w:=w2 },y',bs',ws'⟩++K9 no o) ⟨⟨{ z.q with v:=v2,w:=w2 },y',bs',ws'⟩,StS.head xu hxu.symm _ hc,⟨v2,w2,rfl⟩,rfl,rfl⟩ (List.Sublist.cons _ (List.Sublist.cons _ (List.Sublist.cons _ (List.sublist_cons_self _ _))))
  ·rw[hj];have hll:(L.map x9).length=L.length:=llm _;by_cases hnil:L.length=0
   ·repeat' first|refine Z ?_|intro
    exact l9 (K9 nz ⟨{ z.q with v:=z.q.v,w:=z.q.w },z.y,z.bs,z.ws⟩++K9 no o) ⟨⟨{ z.q with v:=z.q.v,w:=z.q.w },z.y,z.bs,z.ws⟩,StS.none z.q.v z.q.w,⟨z.q.v,z.q.w,rfl⟩,rfl,rfl⟩ (List.Sublist.cons _ (List.sublist_cons_self _ _))
   repeat' first|refine Z ?_|intro
   have hr1:-(((L.map x9).length:Nat):Int)<n.tmod ((L.map x9).length:Nat)/\n.tmod ((L.map x9).length:Nat)<(((L.map x9).length:Nat):Int):=⟨Int.lt_tmod_of_pos n om,Int.tmod_lt_of_pos n om⟩;apply zf [];exact zi;intro _ _;refine a8N ?_;exact j3 (p9 rfl rfl);generalize n.tmod ((L.map x9).length:Nat)=r2 at *;have hr2:=Int.emod_nonneg (r2+(L.map x9).length) (b:=((L.map x9).length:Nat)) om;have hr3:=Int.emod_lt_of_pos (r2+(L.map x9).length) (b:=((L.map x9).length:Nat)) om;obtain⟨j,hje,hjl⟩:∃ j:Nat,(r2+(L.map x9).length)%((L.map x9).length:Nat)=(j:Int)/\j<L.length:=⟨((r2+(L.map x9).length)%((L.map x9).length:Nat)).toNat,om,om⟩;repeat' first|refine Z ?_|intro
   rw[hje];repeat' first|refine Z ?_|intro
   have hmem:L[j]∈oO (cZ nz z) (cZ no o) [107]:=by
    rw[hpl];exact List.getElem_mem hjl
   have hxw2:=(hpz _ (List.getElem_mem hjl)).1.w;generalize L[j]=x at hmem hxw2 ⊢;apply U2 [2,3,4,5,6,7,8,9,10,11,12,13,14,15,16,17,18,19]
   ·exact rfl
   ·exact rfl
   ·exact rfl
   ·kernel_rfl
   intro _ _;refine R7 (hSub x z.ws z.q.v z.q.w hxw2 hwl) (λu m1 hu=>?_);obtain⟨v',w',rfl,rfl⟩:=hu;refine j3 (N7 (T9 { z.q with v:=v',w:=w' } z.y (F3 z.bs) (y8 nz G7 G5 z.bs (V4 z.ws (F8 x)) false)) [] rfl rfl lpr rfl ?_);refine oQ (.var gP 29 (Q9 c0 c1 r0 r1)::.var gS 33 (.agg 3 [int sd,int kd,int n])::(T9 { z.q with v:=v',w:=w' } z.y (F3 z.bs) (y8 nz G7 G5 z.bs (V4 z.ws (F8 x)) false)++T9 o.q o.y (F3 o.bs) (y8 no G7 G5 o.bs o.ws false))) ?_ kr;repeat' first|refine Z ?_|intro
   exact l9 (K9 nz ⟨{ z.q with v:=v',w:=w' },z.y,z.bs,V4 z.ws (F8 x)⟩++K9 no o) ⟨⟨{ z.q with v:=v',w:=w' },z.y,z.bs,V4 z.ws (F8 x)⟩,StS.one x hmem v' w',⟨v',w',rfl⟩,rfl,rfl⟩ (List.Sublist.cons _ (List.sublist_cons_self _ _))
  ·rw[hj];have hll:(L.map x9).length=L.length:=llm _;have hSub':∀ (x:TxX) (ws:List Bs) (v w:V5),TxW x->ws.length<=1000000->Av.Spec prog GL 28 [Q9 c0 c1 r0 r1,int (sd%2),x9 x] (T9 { z.q with v:=v,w:=w } z.y (F3 z.bs) (y8 nz G7 G5 z.bs ws false)) λu m=>∃ v' w',u=d9 true/\m=T9 { z.q with v:=v',w:=w' } z.y (F3 z.bs) (y8 nz G7 G5 z.bs (V4 ws (F8 x)) false):=by
    rw[hsd];exact hSub
   repeat' first|refine Z ?_|intro
   first|refine Y4 5 (v:=int 0) (v':=int (sd%2)) (Imp.of_eq (by rw[hsd])) ?_|refine Y4 5 (v:=int 1) (v':=int (sd%2)) (Imp.of_eq (by rw[hsd])) ?_
   refine y9 (α:=Nat × V5 × V5) (λq=>[(3,ptr gP),(5,int (sd%2)),(9,.sl 100 (L.map x9) (some y2)),(20,int q.1)]) (λq=>.var gP 29 (Q9 c0 c1 r0 r1)::.var gS 33 (.agg 3 [int sd,int kd,int n])::(T9 { z.q with v:=q.2.1,w:=q.2.2 } z.y (F3 z.bs) (y8 nz G7 G5 z.bs (lZ z.ws (L.take q.1)) false)++T9 o.q o.y (F3 o.bs) (y8 no G7 G5 o.bs o.ws false)))
    (λq=>q.1<=L.length) (λq=>L.length-q.1) (0,z.q.v,z.q.w) zc slr (Nat.zero_le _) ?_
   rintro⟨q,v',w'⟩ hq;dsimp only at hq ⊢;have hsl:(lZ z.ws (L.take q)).length<=1000000:=Nat.le_trans (a0i _ hz.ws.l) dc;by_cases hql:q<L.length
   rotate_left
   ·obtain rfl:q=L.length:=by omega
    rw[List.take_length];repeat' first|refine Z ?_|intro
    exact l9 (K9 nz ⟨{ z.q with v:=v',w:=w' },z.y,z.bs,lZ z.ws L⟩++K9 no o) ⟨⟨{ z.q with v:=v',w:=w' },z.y,z.bs,lZ z.ws L⟩,StS.all L hpl v' w',⟨v',w',rfl⟩,rfl,rfl⟩ (List.Sublist.cons _ (List.sublist_cons_self _ _))
   have hxw2:=(hpz _ (List.getElem_mem hql)).1.w;have hsn:lZ z.ws (L.take (q+1))=V4 (lZ z.ws (L.take q)) (F8 L[q]):=by
    unfold lZ;rw[lY hql,List.foldl_append];rfl
   repeat' first|refine Z ?_|intro
   generalize lZ z.ws (L.take q)=ws0 at *;generalize L[q]=x at *;apply U2 [2,3,4,5,6,7,8,9,10,11,12,13,14,15,16,17,18,19]
   ·exact rfl
   ·exact rfl
   ·exact rfl
   ·kernel_rfl
   intro _ _;refine R7 (hSub' x ws0 v' w' hxw2 hsl) (λu m1 hu=>?_);obtain⟨v2,w2,rfl,rfl⟩:=hu;refine j3 (N7 (T9 { z.q with v:=v2,w:=w2 } z.y (F3 z.bs) (y8 nz G7 G5 z.bs (V4 ws0 (F8 x)) false)) [] rfl rfl lpr rfl ?_);refine oQ (.var gP 29 (Q9 c0 c1 r0 r1)::.var gS 33 (.agg 3 [int sd,int kd,int n])::(T9 { z.q with v:=v2,w:=w2 } z.y (F3 z.bs) (y8 nz G7 G5 z.bs (V4 ws0 (F8 x)) false)++T9 o.q o.y (F3 o.bs) (y8 no G7 G5 o.bs o.ws false))) ?_ kr;repeat' first|refine Z ?_|intro
   exact o9 (q+1,v2,w2) zc (by rw[hsn];exact List.Sublist.refl _) hql (by dsimp only;omega)
  all_goals
   rw[hj];have htz':0<=O4 (y8 nz G7 G5 z.bs z.ws false).bl/\O4 (y8 nz G7 G5 z.bs z.ws false).bl<=1099511627776:=htz;repeat' first|refine Z ?_|intro
   apply zf [2];exact zi
   ·intro _ _;first|refine dF 211 (v:=.lit (.pointer r0)) (v':=ptr z.q.gr) (Imp.of_eq (by rw[e3])) ?_|refine dF 211 (v:=.lit (.pointer r1)) (v':=ptr z.q.gr) (Imp.of_eq (by rw[e4])) ?_
    refine aY ?_;exact j3 (p9 rfl rfl)
   repeat' first|refine Z ?_|intro
   obtain⟨tt,htt⟩:∃ tt,O4 (y8 nz G7 G5 z.bs z.ws false).bl+n%4=tt:=⟨_,rfl⟩;rw[htt];apply U2 [2,3,4,5,6,7,8,9,10,11,12,13,14,15,16,17,18,19]
   ·exact rfl
   ·exact rfl
   ·exact rfl
   ·kernel_rfl
   intro _ _;refine R7 (hCut tt z.ws z.q.v z.q.w hz.ws) (λu m1 hu=>?_);obtain⟨v',w',y',bs',ws',hc,rfl,rfl⟩:=hu;refine j3 (N7 (T9 { z.q with v:=v',w:=w' } y' (F3 bs') (y8 nz G7 G5 bs' ws' false)) [] rfl rfl lpr rfl ?_);refine oQ (.var gP 29 (Q9 c0 c1 r0 r1)::.var gS 33 (.agg 3 [int sd,int kd,int n])::(T9 { z.q with v:=v',w:=w' } y' (F3 bs') (y8 nz G7 G5 bs' ws' false)++T9 o.q o.y (F3 o.bs) (y8 no G7 G5 o.bs o.ws false))) ?_ kr;repeat' first|refine Z ?_|intro
   exact l9 (K9 nz ⟨{ z.q with v:=v',w:=w' },y',bs',ws'⟩++K9 no o) ⟨⟨{ z.q with v:=v',w:=w' },y',bs',ws'⟩,StS.cut tt _ hc,⟨v',w',rfl⟩,rfl,rfl⟩ (List.Sublist.cons _ (List.sublist_cons_self _ _))
end
end Go.Proofs.Z

namespace Go.Proofs.Z
open Go Go.RowKit Tw Av
theorem Uz:BsG []:=(Gd (n:=3000) dc dc).bg
theorem a8k:BsG [bk1]:=Ki Uz dc ⟨dc,sm⟩ 1
section
variable {nm:Bs} {bs:List BlkX}
theorem Dn (hb:BsG bs)(b:BlkX):j5 (L8 nm (bs++[b]))=(M7 (j5 (L8 nm bs)) b).1:=by
 have o:=vJ (nm:=nm) (ky:=G7) iZ hb;have o1:=o.ms;have o2:=o.hs;show j5 (opC nm G7 G5 (bs++[b]))=(M7 (j5 (opC nm G7 G5 bs)) b).1;rw[FE];show ((opC nm G7 G5 bs).ms++[(M7 (j5 (opC nm G7 G5 bs)) b).1]).getD ((opC nm G7 G5 bs).hs++[KR (opC nm G7 G5 bs) b]).length []=_;rw[lla,List.length_singleton,List.getD_eq_getElem?_getD,List.getElem?_append_right om,show (opC nm G7 G5 bs).hs.length+1-(opC nm G7 G5 bs).ms.length=0 by omega];rfl
theorem YI (b:BlkX):(L8 nm (bs++[b])).ev=(L8 nm bs).ev++(M7 (j5 (L8 nm bs)) b).2.2:=by
 show (opC nm G7 G5 (bs++[b])).ev=_;rw[FE];rfl
end
theorem TV {nm:Bs}:j5 (L8 nm [bk1])=G5:=(Dn (nm:=nm) Uz bk1).trans rfl
theorem Qt {nm:Bs}:(L8 nm [bk1]).ev=[]:=(YI (nm:=nm) (bs:=[]) bk1).trans rfl
theorem ZB:G5.length<=1000:=Nat.le_trans ZA dc
theorem Fp:M7 G5 (O5 [bk1] [F8 qC] 1)=(yI G5 [98] 1 OJ,[oJ],[]):=Fa iZ ZB dc dc ZC
theorem a1k:M7 G5 (O5 [bk1] [F8 sZ] 1)=(yI G5 [97] 2 VM,[oJ],[]):=Fa iZ ZB dc dc ZC
theorem a0o:j5 (L8 [97] aX)=yI G5 [98] 1 OJ:=by
 show j5 (L8 [97] ([bk1]++[O5 [bk1] [F8 qC] 1]))=_;rw[Dn a8k,TV,Fp]
theorem a6K:(L8 [97] aX).ev=[]:=by
 show (L8 [97] ([bk1]++[O5 [bk1] [F8 qC] 1])).ev=_;rw[YI,TV,Fp,Qt];rfl
theorem a6J:(L8 [98] jX).ev=[]:=by
 show (L8 [98] ([bk1]++[O5 [bk1] [F8 sZ] 1])).ev=_;rw[YI,TV,a1k,Qt];rfl
theorem a4a:A9 (j5 (L8 [97] aX)) [107]=1:=by
 rw[a0o];exact(Si (h:=0) (t:=0) iZ ZB dc dc ZC).2.2
theorem Dc {ws:List Bs}:O4 ([bk1]++[O5 [bk1] ws 1])=1:=by
 rw[De];rfl
theorem Ti {nm:Bs}{bs:List BlkX}(hb:BsG bs)(h1:1<=bs.length)(_:O4 bs<=1000) :
  ((((L8 nm bs).hs.length<=1000000/\(L8 nm bs).ky.length<=1000000)/\∀ y∈(L8 nm bs).hs,y.h<=9223372036854775807/\y.t<=9223372036854775807)/\1<=(L8 nm bs).hs.length) /\
  (((L8 nm bs).hs.length<(L8 nm bs).ms.length/\(L8 nm bs).ms.length<=1000000)/\DOk (j5 (L8 nm bs))):=by
 have o:=vJ (nm:=nm) (ky:=G7) iZ hb;have o1:(L8 nm bs).hs.length=bs.length:=o.hs;have o2:(L8 nm bs).ms.length=bs.length+1:=o.ms;have o3:(L8 nm bs).ky=G7:=o.ky;have hl:=hb.l;rw[o1,o2,o3];exact⟨⟨⟨⟨om,dc⟩,Nv hb⟩,h1⟩,⟨om,om⟩,o.st⟩
section
variable {d:List Ent} {c:Bs} {k:Int} {r:Hsh} {x:Hdr} {h t:Int}
end

section
variable {z:SZ}{N:Nat}
theorem SI.mono (h:SI N z):SI (N+1) z:=⟨h.ar,h.ro,h.ws,by have:=h.l;omega⟩
theorem SI.le {M:Nat}(h:SI N z)(hM:N<=M):SI M z:=⟨h.ar,h.ro,h.ws,by have:=h.l;omega⟩
theorem Ry {t:Int}{z':SZ}(_:BsG z.bs)(hw:WsG z.ws)(hl:1<=z.bs.length/\z.bs.length<=N)(h:CutTo t z z'):SI (N+1) z':=by
 obtain⟨_,h2,h3,h4⟩:=h;rcases h4 with⟨h4,h5⟩|⟨h4,h5,_⟩
 ·refine⟨h2,h3,by rw[h5];exact⟨dc,sm⟩,?_⟩;rw[h4,lla,List.length_singleton];omega
 refine⟨h2,h3,by rw[h5];exact hw,?_⟩;rw[h4];omega
theorem MZ {x:TxX}(hk:K20 x.k):(F8 x).length<=6000->Tx20 (F8 x):=λhl=>⟨hl,λhe=>by
 have h:0<=x.k/\x.k<=16:=by
  unfold K20 at hk;omega
 rw[Fs h he];exact hk⟩
theorem a0h (l:List TxX):∀ {ws:List Bs},WsG ws->(∀ x∈l,K20 x.k)->WsG (lZ ws l):=by
 unfold lZ
 induction l with
 | nil=>exact λh _=>h
 | cons x l ih=>
  intro ws h hk;rw[List.foldl_cons];exact ih (JI h (MZ (hk x List.mem_cons_self))) λy hy=>hk y (List.mem_cons_of_mem _ hy)
theorem a0C {kd n k:Int}:K20 (kR kd n k).k:=.inr (.inr (.inl rfl))
theorem Yu {i:Bs}{h:Hdr}{m:Hsh}:K20 (lV i h m).k:=.inr (.inl rfl)
attribute [local irreducible] F8 V4 A9 dQ gM oO bG cK kR lV y8 lZ
theorem StS.si {nz no:Bs}{o z':SZ}(hz:SI N z)(ho:SI N o)(h:StS nz no z o z'):SI (N+1) z':=by
 have hl:=hz.l;have hP:=λx hx=>(Jj (hz.cg nz) (ho.cg no) (i:=[107]) x hx).2.2;have hP2:∀ x∈oO (cZ nz z) (cZ no o) [107],K20 x.k:=λx hx=>by
  have:=hP x hx;unfold K20;omega
 cases h with
 | send kd n k hk v w=>exact⟨hz.ar,hz.ro,JI hz.ws (MZ a0C),by dsimp only;omega⟩
 | head x hx z' h=>exact Ry (z:=⟨z.q,z.y,z.bs,V4 z.ws (F8 x)⟩) hz.ro.bg (JI hz.ws (MZ (by rw[hx];exact Yu))) hl h
 | none v w=>exact⟨hz.ar,hz.ro,hz.ws,by dsimp only;omega⟩
 | one x hx v w=>exact⟨hz.ar,hz.ro,JI hz.ws (MZ (hP2 x hx)),by dsimp only;omega⟩
 | all l hl' v w=>exact⟨hz.ar,hz.ro,a0h l hz.ws (by rw[<- hl'];exact hP2),by dsimp only;omega⟩
 | cut t z' h=>exact Ry hz.ro.bg hz.ws hl h
end
end Go.Proofs.Z

namespace Go.Proofs.Z
open Go Go.RowKit Tw Av Go.Proofs.Tryz
set_option maxRecDepth 100000 in
instance c9Y:Ans prog GL 6 [] True (d9 true):=⟨λ_=>by
 refine ze func6 ntmps6 λ_ hs=>?_;repeat' first|refine Z ?_|intro
 refine H6 (args:=[]) [] _ (by rw[hs];exact YC (.inl rfl)) (λu m1 hh=>?_) lpr;obtain⟨a,b,hA,hB,rfl,rfl⟩:=hh;have h1:1<=aX.length:=by decide
 have h2:1<=jX.length:=dc
 obtain⟨q1,q2⟩:=Ti (nm:=[97]) hA.ro.bg h1 (by show O4 ([bk1]++[O5 [bk1] [F8 qC] 1])<=1000;rw[Dc];decide);obtain⟨q3,q4⟩:=Ti (nm:=[98]) hB.ro.bg h2 (by show O4 ([bk1]++[O5 [bk1] [F8 sZ] 1])<=1000;rw[Dc];decide);have gA:CG (L8 [97] aX):=ZV (nm:=[97]) (ky:=G7) (d:=G5) (ws:=[]) iZ hA.ro.bg h1 dc;have gB:CG (L8 [98] jX):=ZV (nm:=[98]) (ky:=G7) (d:=G5) (ws:=[]) iZ hB.ro.bg h2 dc;have hk:=a4a;have e1:=a6K;have e2:=a6J;rw[List.append_nil];dsimp only[dG];generalize L8 [97] aX=cA at *;generalize L8 [98] jX=cB at *;have hP:=QG (ga:=a.q.gc) (gb:=b.q.gc) (gs0:=a.q.gs) (gs1:=b.q.gs) (a1:=a.q.v.2.1) (a2:=a.q.v.2.2.1) (a3:=a.q.v.2.2.2.1) (a4:=a.q.v.2.2.2.2) (b1:=b.q.v.2.1) (b2:=b.q.v.2.2.1) (b3:=b.q.v.2.2.2.1) (b4:=b.q.v.2.2.2.2) (i:=[107]) gA.k gA.v (λv hv=>(gA.g v hv).x.n) gB.q gB.k.1.2 (λd hd=>Nat.le_trans (gB.m d hd).l dc) gB.v (λv hv=>(gB.g v hv).x.n) (λv hv=>by have:=(gB.g v hv).x.q;omega);rw[e1,e2] at hP;repeat' first|refine Z ?_|intro
 refine H6 (args:=[ptr a.q.gc,ptr b.q.gc,str [107]]) [.var a.q.gc 113 (y7 a.q.gs a.q.v.2.1 a.q.v.2.2.1 a.q.v.2.2.2.1 a.q.v.2.2.2.2 cA),.var b.q.gc 113 (y7 b.q.gs b.q.v.2.1 b.q.v.2.2.1 b.q.v.2.2.2.1 b.q.v.2.2.2.2 cB)] _ (by rw[hs];exact hP) (λu m1 hh=>?_) (rF _ rG [11,29,0,1,2,3,4,5,6,7,8,9,10,12,13,14,15,16,17,18,19,20,21,22,23,24,25,26,27,28,30,31,32,33,34,35,36,37]);obtain⟨hu,rfl⟩:=hh;have hu:u=.sl 100 [] none:=hu;subst hu;exact j4⟩

abbrev EL (s:Int × Int × Int):AV:=.agg 3 [int s.1,int s.2.1,int s.2.2]
structure PlZ where
 i:Nat
 a:SZ
 b:SZ
abbrev zM (z:PlZ):List Av.Piece:=K9 [97] z.a++K9 [98] z.b
abbrev iD (z:PlZ):AV:=vH z.a.q z.b.q
end Go.Proofs.Z
