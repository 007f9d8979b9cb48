/- . -/
import Derived.Test.YtjhnaegpchadiaaGreatDoorN42
namespace Go.Proofs.YtjhnaegpchadiaaGreatDoor
open Go Go.RowKit Tw Av Go.Proofs.Tryz
theorem Yo (bs:List BlkX)(t:Int):(U2 (bs++[G7 bs [] t])).length<=(U2 bs).length+100:=by
 have h1:=PP (K6 (G7 bs [] t));have h2:=MF (G7 bs [] t);have h3:qY (G7 bs [] t).x=0:=rfl;have h4:(G7 bs [] t).x.length=0:=rfl;rw[xQ,lla];omega
structure K21 (i:Nat)(bs:List BlkX)(z:Sd):Prop where
 b:LB21 bs z
 l:bs.length=2+i
 t:1<=O5 bs/\O5 bs<=63
 r:(U2 bs).length<=1300+100*i
theorem Dj {s:Bs}(h:s.length<=1000):(U2 ([bk1]++[G7 [bk1] [s] 1])).length<=1300:=by
 have h0:=RN;have h1:=PP (K6 (G7 [bk1] [s] 1));have h2:=MF (G7 [bk1] [s] 1);have h3:qY (G7 [bk1] [s] 1).x=s.length:=by
  show qY [s]=_;simp[qY]
 have h4:(G7 [bk1] [s] 1).x.length=1:=rfl;rw[xQ,lla];omega
theorem K21.next {i:Nat}{bs:List BlkX}{z:Sd}{q:SdI}{y:DvX}{t:Int}(h:K21 i bs z)(ht:0<=t/\t<=63)(h1:y.n=z.y.n)(h2:y.ar=false)(h3:Ro y (bs++[G7 bs [] t])):K21 (i+1) (bs++[G7 bs [] t]) ⟨q,y⟩:=by
 have hl:=Yo bs t;have hr:=h.r;have hb:=h.t;refine⟨⟨h1.trans h.b.n,h2,h3⟩,?_,?_,om⟩
 ·rw[lla,List.length_singleton,h.l];omega
 ·rw[DC];show 1<=max (min t 1099511627776) (O5 bs)/\max (min t 1099511627776) (O5 bs)<=63;omega
theorem Oq {x:Hdr}{m:Hsh}(h4:K20 4)(hc:x.c.length<=32)(hh:0<=x.h/\x.h<=1000)(ht:0<=x.t/\x.t<=1000):WsG ([]++[G5 (M0 [107] x m)]):=⟨by show 1<=16;decide,fun s hs=>by
 rw[List.nil_append,List.mem_singleton] at hs;rw[hs];refine⟨Nat.le_trans (CW hc) dc,fun _=>?_⟩;rw[(JI (WH (m:=m) hc hh ht) (Nat.le_trans (CW hc) dc)).1];exact h4⟩
instance b5i {d:List Ent}{h t:Int}{x:TxX}:Ans prog GL 10 [.agg 1 [.sl 2 (d.map D5) none],N7 x,int h,int t] (DOk d/\TxB x/\K20 x.k) (.tup [dA (E8 d x h t).1,N8 (E8 d x h t).2]):=Gw
structure KnS where
 i:Nat
 bs:List BlkX
 z:Sd
set_option maxRecDepth 100000 in
set_option maxHeartbeats 4000000 in
theorem a1g {many:Int}{times:List Int}{xs:List AV}{id:Option Value}(hxs:xs=times.map int):Ans prog GL 3 [int many,.sl 1 xs id] True (j3 true):=⟨fun _=>by
 subst hxs;have hm:(times.map int).length=times.length:=llm _;have h3:K20 3:=.inl rfl;refine qF func3 ntmps3 fun _ hs=>?_;refine CK 1 (fun hbnd=>?_);rw[hm] at hbnd;have hbnd:=tL hbnd;repeat' first|refine Zz ?_|intro _
 refine I8 (args:=[]) [] _ (by rw[hs];exact Gy h3) (fun u m1 hh=>?_) lpr;obtain⟨a,b,hA,hB,rfl,rfl⟩:=hh;rw[List.append_nil];repeat' first|refine Zz ?_|intro _
 refine Ms 3 ?_ rfl rfl rfl dc rfl;rename_i gP;obtain⟨n,hn⟩:∃ n:Nat,1+many%(2 ^ 3:Nat)=n:=⟨(1+many%8).toNat,om⟩;have hn8:1<=n/\n<=8:=by omega
 repeat' first|refine Zz ?_|intro _
 rw[hn];repeat' first|refine Zz ?_|intro _
 have tB:O5 qM=1:=CZ;have hK0:K21 0 qM b:=⟨hB,rfl,by rw[tB];decide,Dj (vD dc)⟩;clear hB;refine y5 (α:=KnS) (fun z=>[(1,.sl 1 (times.map int) id),(5,j3 true),(6,ptr gP),(8,int n),(9,int z.i)]) (fun z=>.var gP 29 (pU a.q z.z.q)::(P6 [97] M5 a++P6 [98] z.bs z.z))
  (fun z=>z.i<=n/\K21 z.i z.bs z.z) (fun z=>n-z.i) ⟨0,qM,b⟩ ⟨rfl,rfl,rfl,rfl,rfl,trivial⟩ slr ⟨Nat.zero_le _,hK0⟩ ?_
 clear hK0;rintro⟨i,bs,z⟩ ⟨hi,hK⟩;dsimp only at hi hK ⊢;repeat' first|refine Zz ?_|intro _
 refine o8 (fun hlt=>?_) (fun hlt=>?_)
 ·repeat' first|refine Zz ?_|intro _
  refine yY (α:={ t:Int // 0<=t/\t<=63 }) (fun t=>[(1,.sl 1 (times.map int) id),(5,j3 true),(6,ptr gP),(8,int n),(9,int i),(10,int t.1)]) (fun _=>.var gP 29 (pU a.q z.q)::(P6 [97] M5 a++P6 [98] bs z)) ?_ (fun t=>?_)
  ·refine o8 (fun hl=>?_) (fun hl=>?_)
   ·have hil:i<times.length:=om
    repeat' first|refine Zz ?_|intro _
    exact X7 ⟨times[i]%64,om⟩ ⟨rfl,rfl,rfl,rfl,rfl,rfl,trivial⟩ slr
   ·repeat' first|refine Zz ?_|intro _
    exact X7 ⟨0,dc⟩ ⟨rfl,rfl,rfl,rfl,rfl,rfl,trivial⟩ slr
  ·obtain⟨t,ht⟩:=t;dsimp only;repeat' first|refine Zz ?_|intro _
   have hroom:((U2 bs).length:Int)+1004*(([]:List Bs).length:Int)+44<=J4 z.y.n:=by
    have h1:=EA;have h2:=hK.r;rw[hK.b.n];show ((U2 bs).length:Int)+1004*((0:Nat):Int)+44<=J4 3000;omega
   have hl2:=hK.l;have hl3:bs.length<188:=by
    have:=hn8.2;omega
   refine I8 (args:=[pU a.q z.q,int 1,int t]) (P6 [98] bs z) ([_]++P6 [97] M5 a) (by rw[hs];exact AU (nm:=[98]) (ky:=y9) (d:=F6) (bs:=bs) (ws:=[]) (x:=z.y) (c0:=D9 a.q.gc) (c1:=D9 z.q.gc) (r0:=D9 a.q.gr) (r1:=D9 z.q.gr) (i:=1) (t:=t) z.q (.inr ⟨rfl,rfl,rfl⟩) dM hK.b.ro hl3 ⟨dc,sm⟩ hK.b.ar hroom sm) (fun u m1 hh=>?_) (KD [_] (P6 [97] M5 a) (P6 [98] bs z));obtain⟨v',w',y,⟨hn',ha',hR⟩,rfl,rfl⟩:=hh;refine gG (fun ok w h=>h.perm (m':=[_]++(P6 [97] M5 a++P6 [98] (bs++[G7 bs [] t]) ⟨{ z.q with v:=v',w:=w' },y⟩)) (KD [_] (P6 [97] M5 a) (P6 [98] (bs++[G7 bs [] t]) ⟨{ z.q with v:=v',w:=w' },y⟩))) ?_;repeat' first|refine Zz ?_|intro _
   exact o6 ⟨i+1,bs++[G7 bs [] t],⟨{ z.q with v:=v',w:=w' },y⟩⟩ ⟨rfl,rfl,rfl,rfl,rfl,trivial⟩ slr ⟨by show i+1<=n;omega,hK.next ht hn' ha' hR⟩ (by show n-(i+1)<n-i;omega)
 ·obtain rfl:i=n:=by omega
  have hl2:=hK.l;have hbt:=hK.t;obtain⟨q1,q2⟩:=FV (nm:=[97]) hA.ro.bg dc (by show O5 ([bk1]++[G7 [bk1] [G5 lF] 1])<=1000;rw[CZ];decide);obtain⟨q3,q4⟩:=FV (nm:=[98]) hK.b.ro.bg om om;have htop:=Qc (nm:=[98]) hK.b.ro.bg om;have hky:(G9 [98] bs).ky=y9:=(nP (nm:=[98]) (ky:=y9) dM hK.b.ro.bg).ky;have hhs:(G9 [98] bs).hs.length=bs.length:=(nP (nm:=[98]) (ky:=y9) dM hK.b.ro.bg).hs;have hkn:=Dv;have hst:=OA;obtain⟨cA,hcA⟩:∃ c,c=G9 [97] M5:=⟨_,rfl⟩;obtain⟨cB,hcB⟩:∃ c,c=G9 [98] bs:=⟨_,rfl⟩;generalize uJ (o7 (G9 [98] bs))=rt at htop;dsimp only[P6];rw[<- hcA] at q1 q2 hkn hst ⊢;rw[<- hcB] at q3 q4 htop hky hhs ⊢;obtain⟨hd,hhd⟩:∃ x:Hdr,x=⟨[98],bs.length,O5 bs,rt⟩:=⟨_,rfl⟩;rw[<- hhd] at htop;have hc:hd.c=[98]:=by rw[hhd]
  have hh:hd.h=bs.length:=by rw[hhd]
  have hht:hd.t=O5 bs:=by rw[hhd]
  have hu:=WG (d:=F6) (c:=[98]) (k:=1) (r:=uM) (x:=hd) (h:=9) (t:=9) dM (Nat.le_trans FP dc) dc dc FQ hc om om dc;rw[<- hst] at hu;have hdo:DOk (o7 cA)/\TxB (M0 [107] hd (J8 y9 hd))/\K20 (M0 [107] hd (J8 y9 hd)).k:=⟨q2.2,Po om om,.inr rfl⟩;repeat' first|refine Zz ?_|intro _
  rw[htop,hky];have q5:=q2.1;rw[hkn];repeat' first|refine Zz ?_|intro _
  apply x8 [11];exact rfl;exact rfl;kernel_rfl
  ·intro _ _;refine Y4 ?_;exact j4 (o9 rfl rfl)
  iterate 5 (first|refine rQ ?_|refine lV ?_)
  rw[hu.1];apply Ce [56,59];kernel_rfl;kernel_rfl;kernel_rfl;exact⟨⟨_,inferInstance⟩,⟨_,inferInstance⟩,trivial⟩;intro g14;apply Ce [56,59];kernel_rfl;kernel_rfl;kernel_rfl;exact⟨⟨_,inferInstance⟩,⟨_,inferInstance⟩,trivial⟩;intro g15;apply bP [38];exact rfl;exact rfl;kernel_rfl
  ·intro _ _;refine bG ?_;exact j4 (bW rfl)
  ·exact rfl
  ·exact rfl
  apply bP [39];exact rfl;exact rfl;kernel_rfl
  ·intro _ _;refine bG ?_;exact j4 (bW rfl)
  ·exact rfl
  ·exact rfl
  repeat' (first|refine bK ?_|refine O3 ?_|refine U0 ?_|refine M7 ?_|intro _)
  rename_i g11;refine yX ([.var g14 56 (dA (wS F6 [98] 1 uM hd)),.var g15 59 (N8 lN),.var g11 51 (N7 (M0 [107] hd (J8 y9 hd))),.var gP 29 (pU a.q z.q)]++(bO a.q a.y (D6 M5) cA++bO z.q z.y (D6 bs) cB)) _ ?_ (List.perm_append_comm (l₁:=[_,_])) slr;repeat' first|refine Zz ?_|intro _
  apply x8 [31];exact rfl;exact rfl;kernel_rfl
  ·intro _ _;refine bV ?_;refine Y4 ?_;exact j4 (o9 rfl rfl)
  have hh2:(M0 [107] hd (J8 y9 hd)).h.h=(bs.length:Int):=hh;rw[hhs,hh2];repeat' first|refine Zz ?_|intro _
  rw[dZ (show ¬ ((bs.length:Int)≠bs.length) from fun h=>h rfl)];have hsl:([107,101,121]:Bs).length<=1000000/\(M0 [107] hd (J8 y9 hd)).h.h<=9223372036854775807/\(M0 [107] hd (J8 y9 hd)).h.t<=9223372036854775807:=⟨dc,by show hd.h<=_;omega,by show hd.t<=_;omega⟩;repeat' first|refine Zz ?_|intro _
  have hmm:decide ((M0 [107] hd (J8 y9 hd)).m=J8 [107,101,121] ⟨(M0 [107] hd (J8 y9 hd)).h.c,(M0 [107] hd (J8 y9 hd)).h.h,(M0 [107] hd (J8 y9 hd)).h.t,(M0 [107] hd (J8 y9 hd)).h.r⟩)=true:=dT rfl;rw[hmm];repeat' first|refine Zz ?_|intro _
  have hcl:hd.c.length<=32:=by rw[hc];decide
  subst hcA;refine I8 (args:=[pU a.q z.q,int 0,N7 (M0 [107] hd (J8 y9 hd))]) (P6 [97] M5 a) ([_,_,_,_]++bO z.q z.y (D6 bs) cB) (by rw[hs];exact TB (nm:=[97]) (ky:=y9) (d:=F6) (bs:=M5) (ws:=[]) (x:=a.y) (c0:=D9 a.q.gc) (c1:=D9 z.q.gc) (r0:=D9 a.q.gr) (r1:=D9 z.q.gr) (i:=0) (z:=M0 [107] hd (J8 y9 hd)) (s:=D6 M5) a.q (.inl ⟨rfl,rfl,rfl⟩) (Pn om om) (Nat.le_trans (CW hcl) dc) dc) (fun u m1 hh=>?_) (permA [_,_,_,_] (P6 [97] M5 a) (bO z.q z.y (D6 bs) cB));obtain⟨v,w,rfl,rfl⟩:=hh;repeat' first|refine Zz ?_|intro _
  have tA:O5 M5=1:=CZ;have hws:WsG ([]++[G5 (M0 [107] hd (J8 y9 hd))]):=Oq (.inr rfl) hcl om om;have hrm:((U2 M5).length:Int)+1004*(([]++[G5 (M0 [107] hd (J8 y9 hd))]:List Bs).length:Int)+44<=J4 a.y.n:=by
   have h1:=EA;have h2:(U2 M5).length<=1300:=Dj (vD dc);rw[hA.n];show ((U2 M5).length:Int)+1004*((1:Nat):Int)+44<=J4 3000;omega
  have hwl:∀ s∈([]++[G5 (M0 [107] hd (J8 y9 hd))]:List Bs),s.length<=1000:=fun s hs=>by
   rw[List.nil_append,List.mem_singleton] at hs;rw[hs];exact CW hcl
  refine I8 (args:=[pU a.q z.q,int 0,int 9]) (bO { a.q with v:=v,w:=w } a.y (D6 M5) (C9 [97] y9 F6 M5 ([]++[G5 (M0 [107] hd (J8 y9 hd))]) false)) ([_,_,_,_]++bO z.q z.y (D6 bs) cB) (by rw[hs];exact AU (nm:=[97]) (ky:=y9) (d:=F6) (bs:=M5) (ws:=[]++[G5 (M0 [107] hd (J8 y9 hd))]) (x:=a.y) (c0:=D9 a.q.gc) (c1:=D9 z.q.gc) (r0:=D9 a.q.gr) (r1:=D9 z.q.gr) (i:=0) (t:=9) { a.q with v:=v,w:=w } (.inl ⟨rfl,rfl,rfl⟩) dM hA.ro dc hws hA.ar hrm hwl) (fun u m1 hh=>?_) lpr;obtain⟨v',w',y,⟨_,_,hR⟩,rfl,rfl⟩:=hh;have hkn2:E9 (o7 (G9 [97] (M5++[G7 M5 ([]++[G5 (M0 [107] hd (J8 y9 hd))]) 9]))) [107]=hd.h:=by
   rw[IR hA.ro.bg,OA];have hr:=Sm (d:=F6) (c:=[98]) (k:=1) (r:=uM) (x:=hd) (h:=(M5.length:Int)+1) (t:=max (min 9 1099511627776) (O5 M5)) dM (Nat.le_trans FP dc) dc dc FQ hc om om (by rw[tA];decide);have e:L8 (eP F6 [98] 1 uM) (G7 M5 ([]++[G5 (M0 [107] hd (J8 y9 hd))]) 9)=(wS F6 [98] 1 uM hd,[lN],[]):=hr;rw[e];exact hu.2.2
  obtain⟨_,q6⟩:=FV (nm:=[97]) hR.bg (by rw[lla];exact Nat.le_add_right_of_le dc) (by rw[DC];show max (min 9 1099511627776) (O5 M5)<=1000;rw[tA];decide);generalize hbs':M5++[G7 M5 ([]++[G5 (M0 [107] hd (J8 y9 hd))]) 9]=bs' at *;obtain⟨cC,hcC⟩:∃ c,c=G9 [97] bs':=⟨_,rfl⟩;rw[<- hcC] at q6 hkn2;show AL _ _ _ _ _ _ _ (bO { a.q with v:=v',w:=w' } y (D6 bs') (G9 [97] bs')++_);rw[<- hcC];repeat' (first|refine bK ?_|refine O3 ?_|refine U0 ?_|refine M7 ?_|intro _)
  refine yX ([_,_,_,_]++(bO { a.q with v:=v',w:=w' } y (D6 bs') cC++bO z.q z.y (D6 bs) cB)) _ ?_ (permA [_,_,_,_] (bO { a.q with v:=v',w:=w' } y (D6 bs') cC) (bO z.q z.y (D6 bs) cB)) slr;repeat' first|refine Zz ?_|intro _
  apply x8 [13];exact rfl;exact rfl;kernel_rfl
  ·intro _ _;refine bV ?_;refine Y4 ?_;exact j4 (o9 rfl rfl)
  rw[hkn2];repeat' first|refine Zz ?_|intro _
  refine d9 ?_;exact congrArg j3 (dT rfl)⟩
end Go.Proofs.YtjhnaegpchadiaaGreatDoor
