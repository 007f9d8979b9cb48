/- . -/
import Derived.Test.YtcdbijbhifhkeaaGreatDoorV43
set_option maxHeartbeats 64000000
namespace Go.Proofs.Z
open Go Go.RowKit Tw Av
attribute [local irreducible] j6 O7 N9 M9 Z9 O4 S9 K7 N8
abbrev oN (w:Wd)(h:Int):Pkt:=F7 [99,47,120] [98,111,98] [97,110,110] w h
theorem SvS.sndF {nm no:Bs}{z:SpX}{bs:List BlkX}{l:List Sta}{s:Sta}{m:Nat}{F:Bs->Option Bs}{ev:List EvX}{den f g:Bs}{w:Wd}(hz:SvS nm no z bs [] l s m F ev)(hnm:nm.length=1)(hno:no.length=1)(hN:F kN=none)(hpk:vY den f g=true)(hsh:vP den f g)(hw:w.n≠0)(hb:bs.length<=48)
  (hs:∀ D,Mp D m (fC no l s F)->Z6 D (F7 den f g w (s.h+20))=([],16)) (hsn:s.h<=900) :
  R6 z.c (j6 (N8 den f g w (s.h+20)))=0/\SvS nm no (K7 z (j6 (N8 den f g w (s.h+20)))) bs [j6 (N8 den f g w (s.h+20))] l s m F ev /\
   ∃ z1 b,eQ (K7 z (j6 (N8 den f g w (s.h+20))))=z1/\SvS nm no z1 (bs++[b]) [] l s m F ev:=by
 have hg:=hz.g.s;have e13:(N8 den f g w (s.h+20)).k=13:=by unfold N8;rfl
 have exx:(N8 den f g w (s.h+20)).x=⟨0,[99],[],den,w,f,g,s.h+20,0⟩:=by unfold N8;rfl
 obtain⟨x1,x2⟩:TxG (N8 den f g w (s.h+20))/\(j6 (N8 den f g w (s.h+20))).length<=1000:=by
  unfold N8;exact MW (a:=w) (h:=s.h+20) hsh om
 obtain⟨e,hsub⟩:=hz.sub (t:=j6 (N8 den f g w (s.h+20))) x2;refine⟨e,hsub,?_⟩;obtain⟨c1,c2,c3⟩:=hz.ch.ch;obtain⟨a1,a2,a3,a4⟩:=hz.ch.en;have hgo:goes (Dm nm bs) ⟨0,[99],[],den,w,f,g,s.h+20,0⟩=F7 den f g w (s.h+20):=by
  show (⟨X7 (Dm nm bs) [99],[99],(I1 (Dm nm bs) [72] [99]).p,den,w,f,g,s.h+20,0⟩:Pkt)=_;rw[Al (by rw[hz.M.g Am];exact hN),a4];rfl
 have hch:=AU (den:=den) (f:=f) (g:=g) (a:=w) (h:=s.h+20) hpk hw om;have hla:aV (F7 den f g w (s.h+20)) s.h s.t=false:=dZ (by show ¬ ((s.h+20≠0/\s.h+20<=s.h)\/((0:Int)≠0/\0<=s.t));omega);have hdo:u7 (Dm nm bs) (N8 den f g w (s.h+20)) (bs.length+1) 0=(Dm nm bs,yS 16):=by
  have e1:u7 (Dm nm bs) (N8 den f g w (s.h+20)) (bs.length+1) 0=eX (Dm nm bs) (N8 den f g w (s.h+20)).x:=by
   unfold u7;rw[e13];rfl
  rw[e1,exx];unfold eX;rw[hgo];show (if nO (Dm nm bs) [99] (λ_=>true)≠0 then _ else _)=_;rw[if_neg (by rw[c1 _ rfl];decide),if_neg (by rw[hch];decide),show sG (Dm nm bs) [99]=true from c2,show aO (Dm nm bs) [99]=[107] from c3,if_neg (by rw[hz.c.b hno];decide),hz.c.r hno,show dW (dQ no (l++[s])).l=s from TJ,if_neg (by rw[hla];decide)];simp only[aF,hgo,hs _ hz.M];rfl
 obtain⟨z1,b,e1,hv,_⟩:=SvS.cut1 (x:=N8 den f g w (s.h+20)) (r:=yS 16) hsub om x1 x2 hz.g hz.ll ⟨_,hdo,hz.M⟩ hz.m hz.k hz.h;refine⟨z1,b,?_,?_⟩
 ·unfold eQ;rw[if_neg (by rw[hsub.L.c];show ¬ (1:Nat)=0;decide),hsub.tm hnm,e1]
 rw[if_neg (by rintro⟨h,_⟩;exact absurd h dc),List.append_nil] at hv;exact hv
structure Mid (w:Nat)(FA FB:Bs->Option Bs)(O0 evB:List EvX):Prop where
 ap:FA kP=none
 ag:FA kG=none
 ae:FA lZ=F4 w
 aa:FA iK=F4 (1000-w)
 sa:∃ den f g a h,sn O0=[F7 den f g a h]
 bg:FB kG=some (Z9 [43])
 bp:FB kP=none
 bn:FB kN=none
 bt:FB pE=F4 w
 bb:FB gG=F4 w
 bs:sn evB=[]
section
variable {a b:SpX} {bA bB:List BlkX} {lA lB:List Sta} {sA sB:Sta} {FA FB:Bs->Option Bs} {O0 evB:List EvX} {w:Wd} {W:Nat}
theorem a2O (ha:SvS [97] [98] a bA [] lA sA 10 FA O0)(hb:SvS [98] [97] b bB [] lB sB 10 FB evB)(nA:bA.length=23)(nB:bB.length=22)(qA:lA.length=10)(qB:lB.length=10)(tA:sA.h<bB.length)(tB:15<=sB.h/\sB.h<bA.length+2)(M:Mid W FA FB O0 evB)(hW:1<=W/\W<=8)(hw:1<=w.n/\w.n<=W) :
  R6 b.c (j6 (N8 [99,47,120] [98,111,98] [97,110,110] w (sB.h+20)))=0/\∃ a' b' bA' bB' lA' lB' sA' sB' FA' FB' evA' evB',RnL 6 (a,K7 b (j6 (N8 [99,47,120] [98,111,98] [97,110,110] w (sB.h+20)))) (a',b') /\
   SvS [97] [98] a' bA' [] lA' sA' 12 FA' evA'/\SvS [98] [97] b' bB' [] lB' sB' 12 FB' evB'/\FA' lZ=F4 (W-w.n)/\FA' iK=F4 (1000-W+w.n)/\FB' gG=F4 (W-w.n)/\(∀ k,k.head?=some 80->FA' k=FA k)/\(∀ k,k.head?=some 80->FB' k=FB k):=by
 have hpk:vY [99,47,120] [98,111,98] [97,110,110]=true:=dc
 have hsh:vP [99,47,120] [98,111,98] [97,110,110]:=⟨dc,dc,dc⟩;obtain⟨d0,f0,g0,w0,h0,hsA⟩:=M.sa;have eA:=ha.evh rfl;have eB:=hb.evh rfl;obtain⟨e0,sc0,tm0,b1,x1,hw1,hb1⟩:=hb.snd (w:=w) (m1:=10) (F1:=D9 (D9 FB pE (F4 (W-w.n))) gG (F4 (W-w.n))) rfl rfl M.bn hpk hsh om om (λD hM=>by
  obtain⟨d1,g1,g2⟩:=a2U (a:=w) (h:=sB.h+20) hM dc (p:=W) (q:=W) (by rw[vC dc];exact M.bt) (by rw[vC dc];exact M.bb) om om om om;rw[wK dc,wK dc] at g2;exact⟨d1,g1,g2⟩) dc (by rw[J2 dc,J2 dc]) (by rw[J2 dc,J2 dc]) om
 have hx1:(bB++[x1]).length=23:=by rw[lla,List.length_singleton,nB]
 refine⟨e0,?_⟩;have hsubv:SvS [98] [97] (K7 b (j6 (N8 [99,47,120] [98,111,98] [97,110,110] w (sB.h+20)))) bB [j6 (N8 [99,47,120] [98,111,98] [97,110,110] w (sB.h+20))] lB sB 10 FB evB:=(hb.sub (by unfold N8;exact(MW (a:=w) (h:=sB.h+20) hsh om).2)).2;generalize hh:sB.h+20=h at *;generalize K7 b (j6 (N8 [99,47,120] [98,111,98] [97,110,110] w h))=b0 at *;have hsB1:sn (evB++[⟨(bB.length:Int)+1,13,oN w h,[]⟩])=[oN w h]:=by
  rw[WQ,M.bs];rfl
 generalize evB++[⟨(bB.length:Int)+1,13,oN w h,[]⟩]=evB1 at *;have hFP:D9 (D9 (D9 (D9 FB pE (F4 (W-w.n))) gG (F4 (W-w.n))) kP (some (M9 (oN w h)))) kN (some (y9 110 2)) kP=some (M9 (oN w h)):=by rw[J2 dc,iT]
 have hFG:D9 (D9 (D9 (D9 FB pE (F4 (W-w.n))) gG (F4 (W-w.n))) kP (some (M9 (oN w h)))) kN (some (y9 110 2)) kG=some (Z9 [43]):=by rw[J2 dc,J2 dc,J2 dc,J2 dc];exact M.bg
 have hFb:D9 (D9 (D9 (D9 FB pE (F4 (W-w.n))) gG (F4 (W-w.n))) kP (some (M9 (oN w h)))) kN (some (y9 110 2)) gG=F4 (W-w.n):=by rw[J2 dc,J2 dc,iT]
 have hF8:∀ k,k.head?=some 80->D9 (D9 (D9 (D9 (D9 FB pE (F4 (W-w.n))) gG (F4 (W-w.n))) kP (some (M9 (oN w h)))) kN (some (y9 110 2))) kP none k=FB k:=λk hk=>by
  by_cases e:k=kP
  ·rw[e,iT];exact M.bp.symm
  rw[J2 e,J2 (λe=>by rw[e] at hk;exact absurd hk dc),J2 e,J2 (λe=>by rw[e] at hk;exact absurd hk dc),J2 (λe=>by rw[e] at hk;exact absurd hk dc)]
 generalize D9 (D9 (D9 (D9 FB pE (F4 (W-w.n))) gG (F4 (W-w.n))) kP (some (M9 (oN w h)))) kN (some (y9 110 2))=FB1 at *;have iA0:Idl FA O0 evB:=⟨.inl M.bs,.inr ⟨_,_,_,_,_,hsA,M.ap⟩⟩;obtain⟨r1,bA1,ha1,n1⟩:=ha.rnd0 (ha.sc rfl) (ha.tm rfl) (EU ha) hsubv rfl rfl tA om om (λD hM=>KE hM (λv hv=>by have:=eA v hv;omega) eB iA0);obtain⟨r2,bB2,hb2,m2⟩:=SvS.wait sc0 tm0 hw1 hb1 ha1 rfl rfl om om om (.inr ⟨_,_,_,_,_,hsA,by rw[hFG];rfl⟩) hsB1 (by rw[hFP];rfl) M.ag om;obtain⟨r3,bA2,ha2,n2⟩:=SvS.rcv ha1 hb2 (w:=w) (h:=h) (m1:=11) (F1:=D9 (D9 FA lZ (F4 (W-w.n))) iK (F4 (1000-W+w.n))) rfl rfl (by show (bB.length:Int)<bB2.length;omega) om (by rw[lla,List.length_singleton];omega) hpk hsh om hsB1 M.ag (.inr ⟨_,_,_,_,_,hsA,M.ap⟩) om hFP (λD hM=>by
  obtain⟨d1,g1,g2⟩:=a3P (a:=w) (h:=h) hM dc (p:=W) (q:=1000-W) (by rw[vC dc];exact M.ae) (by rw[vC dc];exact M.aa) om om om om;rw[wK dc,wK dc] at g2;exact⟨d1,g1,g2.mono (by have:=FV (v:=fC [98] (lA++[sA]++[aR [98] bB]) (aR [98] bB2) FA (F6 [97,110,110] [120]));omega)⟩) dc (by rw[J2 dc,J2 dc]) (by rw[J2 dc,J2 dc])
 have hGA:D9 (D9 (D9 FA lZ (F4 (W-w.n))) iK (F4 (1000-W+w.n))) kG (some (Z9 [43])) kG=some (Z9 [43]):=iT;have hsA2:sn (O0++[⟨(bA1.length:Int)+2,14,oN w h,[43]⟩])=[F7 d0 f0 g0 w0 h0]:=by
  rw[WQ,hsA];rfl
 have hAn:gV (O0++[⟨(bA1.length:Int)+2,14,oN w h,[43]⟩]) (oN w h)=some [43]:=by rw[VC,if_pos ⟨rfl,rfl⟩]
 generalize O0++[⟨(bA1.length:Int)+2,14,oN w h,[43]⟩]=evA2 at *;obtain⟨r4,bB3,hb3,m3⟩:=SvS.ack hb2 ha2 (w:=w) (h:=h) rfl rfl (by show (bA1.length:Int)<bA2.length;omega) om (by rw[lla,List.length_singleton];omega) hpk hsh om hsB1 hFP (.inr ⟨_,_,_,_,_,hsA2,by rw[hFG];rfl⟩) om hGA hAn;have hsB3:sn (evB1++[⟨(bB2.length:Int)+2,15,oN w h,[43]⟩])=[oN w h]:=by
  rw[WQ,hsB1];rfl
 generalize evB1++[⟨(bB2.length:Int)+2,15,oN w h,[43]⟩]=evB3 at *;have iA:Idl (D9 (D9 (D9 FA lZ (F4 (W-w.n))) iK (F4 (1000-W+w.n))) kG (some (Z9 [43]))) evA2 evB3:=⟨.inr ⟨_,_,_,_,_,hsB3,by rw[hGA];rfl⟩,.inr ⟨_,_,_,_,_,hsA2,by rw[J2 dc,J2 dc,J2 dc];exact M.ap⟩⟩;have iB:Idl (D9 FB1 kP none) evB3 evA2:=⟨.inr ⟨_,_,_,_,_,hsA2,by rw[J2 dc,hFG];rfl⟩,.inr ⟨_,_,_,_,_,hsB3,iT⟩⟩;obtain⟨a',b',bA',bB',lA',lB',sA',sB',g0,g1,g2,g3,g4,g5,g6,g7,g8,g9⟩:=Aw 4 ha2 hb3 iA iB (by show (bB2.length:Int)<bB3.length;omega) (by show (bA2.length:Int)<bA2.length+2;omega) om om (by simp only[List.length_append,List.length_singleton];omega) (by simp only[List.length_append,List.length_singleton];omega);refine⟨a',b',bA',bB',lA',lB',sA',sB',_,_,_,_,.step r1 r2 (.step r3 r4 g0),g1,g2,?_,?_,?_,?_,hF8⟩
 ·rw[J2 dc,J2 dc,iT]
 ·rw[J2 dc,iT]
 ·rw[J2 dc,hFb]
 intro k hk;rw[J2 (λe=>by rw[e] at hk;exact absurd hk dc),J2 (λe=>by rw[e] at hk;exact absurd hk dc),J2 (λe=>by rw[e] at hk;exact absurd hk dc)]
theorem b1c {d:List Ent}{m:Nat}{F:Bs->Option Bs}{h:Int}(hM:Mp d m F)(hp:F pE=F4 W)(hW:W<=8)(hw:W<w.n)(hh:1<=h/\h<=1099511627776):Z6 d (F7 [99,47,120] [98,111,98] [97,110,110] w h)=([],16):=by
 have e:=a6o (n:=w) hM hp om hw;unfold Z6;rw[if_neg (by rw[AU dc om hh];decide),if_pos TS];show nR d [98,111,98] [99,47,120] w=_;unfold nR;rw[if_neg (by
  rw[show aJ [98,111,98]=true by decide,show iO [99,47,120]=true by decide];simp;omega)]
 unfold aF;rw[e,if_neg dc]
theorem a2N (ha:SvS [97] [98] a bA [] lA sA 10 FA O0)(hb:SvS [98] [97] b bB [] lB sB 10 FB evB)(nA:bA.length=23)(nB:bB.length=22)(qA:lA.length=10)(qB:lB.length=10)(tA:sA.h<bB.length)(tB:15<=sB.h/\sB.h<bA.length+2)(M:Mid W FA FB O0 evB)(hW:1<=W/\W<=8)(hw:W<w.n) :
  R6 b.c (j6 (N8 [99,47,120] [98,111,98] [97,110,110] w (sB.h+20)))=0/\∃ a' b' bA' bB' lA' lB' sA' sB',RnL 6 (a,K7 b (j6 (N8 [99,47,120] [98,111,98] [97,110,110] w (sB.h+20)))) (a',b') /\
   SvS [97] [98] a' bA' [] lA' sA' 10 FA O0/\SvS [98] [97] b' bB' [] lB' sB' 10 FB evB:=by
 have hpk:vY [99,47,120] [98,111,98] [97,110,110]=true:=dc
 have hsh:vP [99,47,120] [98,111,98] [97,110,110]:=⟨dc,dc,dc⟩;obtain⟨d0,f0,g0,w0,h0,hsA⟩:=M.sa;have eA:=ha.evh rfl;have eB:=hb.evh rfl;obtain⟨e0,hsubv,b1,x1,hw1,hb1⟩:=hb.sndF (w:=w) rfl rfl M.bn hpk hsh om om (λD hM=>b1c hM (by rw[vC dc];exact M.bt) hW.2 hw om) om;have hx1:(bB++[x1]).length=23:=by rw[lla,List.length_singleton,nB]
 refine⟨e0,?_⟩;have sc0:=hsubv.sc rfl;have tm0:=hsubv.tm rfl;have iA:Idl FA O0 evB:=⟨.inl M.bs,.inr ⟨_,_,_,_,_,hsA,M.ap⟩⟩;have iB:Idl FB evB O0:=⟨.inr ⟨_,_,_,_,_,hsA,by rw[M.bg];rfl⟩,.inl M.bs⟩;obtain⟨r1,bA1,ha1,n1⟩:=ha.rnd0 (ha.sc rfl) (ha.tm rfl) (EU ha) hsubv rfl rfl tA om om (λD hM=>KE hM (λv hv=>by have:=eA v hv;omega) eB iA);have eA1:=ha1.evh rfl;obtain⟨r2,bB2,hb2,m2⟩:=hb1.rnd0 sc0 tm0 hw1 ha1 rfl rfl om om om (λD hM=>KE hM (λv hv=>by have:=eB v hv;omega) eA1 iB);obtain⟨a',b',bA',bB',lA',lB',sA',sB',g0,g1,g2,g3,g4,g5,g6,g7,g8,g9⟩:=Aw 5 ha1 hb2 iA iB (by show (bB.length:Int)<bB2.length;omega) (by show (bA1.length:Int)<bA1.length+2;omega) om om (by simp only[List.length_append,List.length_singleton];omega) (by simp only[List.length_append,List.length_singleton];omega);exact⟨a',b',bA',bB',lA',lB',sA',sB',.step r1 r2 g0,g1,g2⟩
end
end Go.Proofs.Z

namespace Go.Proofs.Z
open Go Go.RowKit Tw Av Go.Proofs.Tryz
section
attribute [local irreducible] j6 O7 N9 M9 Z9 O4 S9 K7 N8
structure Sent2 (W V:Nat)(a6 b6 a7 b7:SpX)(w2:Wd)(h2:Int):Prop where
 sb:SpC b6
 k:A9 (j3 b6.c) [107]+20=h2
 e:R6 b6.c (j6 (N8 [99,47,120] [98,111,98] [97,110,110] w2 h2))=0
 t:SetOk 6 (a6,K7 b6 (j6 (N8 [99,47,120] [98,111,98] [97,110,110] w2 h2)))
 r:Z8 6 (a6,K7 b6 (j6 (N8 [99,47,120] [98,111,98] [97,110,110] w2 h2)))=(a7,b7)
 p6:iW a6.c=0/\iW b6.c=0
 p7:iW a7.c=0/\iW b7.c=0
 g:CG a7.c/\CG b7.c
 an:F9 (j3 a7.c) iK=H9 (1000-W+V)
 es:F9 (j3 a7.c) lZ=H9 (W-V)
 bo:F9 (j3 b7.c) gG=H9 (W-V)
theorem KH {nm no:Bs}{z:SpX}{bs:List BlkX}{l:List Sta}{s:Sta}{m:Nat}{F:Bs->Option Bs}{ev:List EvX}{k:Bs}{c:Nat}(h:SvS nm no z bs [] l s m F ev)(hk:k≠kC)(hF:F k=F4 c)(hc:c<=1000000):F9 (j3 z.c) k=H9 c:=by
 refine Wd.ext' ?_;rw[mO om];exact yA (by rw[h.L.st,h.M.g hk,hF]) hc
theorem a2R {n:Int}{w w2:Wd}{a5 b5 a6 b6:SpX}{bA bB:List BlkX}(S:Sent1 n w a5 b5 a6 b6 bA bB)(hw:1<=w.n/\w.n<=8)(hw2:1<=w2.n/\w2.n<=8):∃ a7 b7 h2,Sent2 w.n (if w2.n<=w.n then w2.n else 0) a6 b6 a7 b7 w2 h2:=by
 obtain⟨lA,lB,sA,sB,FA,FB,vA,vB,gA,gB,pA,pB,_,_,nA,nB,tA,tB,qA,qB,tB2,fAn,fTo⟩:=S.v;have M:Mid w.n (D9 (FA1 FA w 28) kP none) (FB1 FB w) [⟨11,13,lV w 28,[]⟩,⟨15,15,lV w 28,[43]⟩] [⟨12,14,lV w 28,[43]⟩]:=by
  refine⟨iT,?_,?_,?_,⟨_,_,_,_,_,rfl⟩,?_,?_,?_,?_,?_,rfl⟩
  ·unfold FA1;rw[J2 dc,J2 dc,J2 dc,J2 dc,J2 dc];exact gA.g
  ·unfold FA1;rw[J2 dc,J2 dc,J2 dc,iT,Nat.zero_add]
  ·unfold FA1;rw[J2 dc,J2 dc,J2 dc,J2 dc,iT]
  ·unfold FB1;exact iT
  ·unfold FB1;rw[J2 dc,J2 dc,J2 dc];exact gB.p
  ·unfold FB1;rw[J2 dc,J2 dc,J2 dc];exact gB.n
  ·unfold FB1;rw[J2 dc,J2 dc,iT,Nat.zero_add]
  unfold FB1;rw[J2 dc,iT,Nat.zero_add]
 have p6:iW a6.c=0/\iW b6.c=0:=⟨vA.pen (FA1_no pA),vB.pen (FB1_no pB)⟩;have hk:A9 (j3 b6.c) [107]+20=sB.h+20:=by rw[vB.L.st,vB.c.kn rfl]
 have hx:(j6 (N8 [99,47,120] [98,111,98] [97,110,110] w2 (sB.h+20))).length<=1000:=by
  unfold N8;exact(MW (a:=w2) (h:=sB.h+20) ⟨dc,dc,dc⟩ om).2
 have hsub:=(vB.sub hx).2;by_cases hle:w2.n<=w.n
 ·obtain⟨e0,a',b',bA',bB',lA',lB',sA',sB',FA',FB',evA',evB',R,g1,g2,f1,f2,f3,f4,f5⟩:=a2O (w:=w2) vA vB nA nB qA qB tA ⟨tB2,tB⟩ M hw ⟨hw2.1,hle⟩;refine⟨a',b',sB.h+20,?_⟩;rw[if_pos hle];exact⟨vB.sc rfl,hk,e0,R.set ⟨by rw[vA.L.c];rfl,vA.L.am⟩ ⟨by rw[hsub.L.c];rfl,hsub.L.am⟩ ⟨g1.L.cg dc g1.b.1,g2.L.cg dc g2.b.1⟩,R.all.1,p6,
   ⟨g1.pen (λk hk=>by rw[f4 k hk];exact FA1_no pA k hk),g2.pen (λk hk=>by rw[f5 k hk];exact FB1_no pB k hk)⟩,⟨g1.L.cg dc g1.b.1,g2.L.cg dc g2.b.1⟩,KH g1 dc f2 om,KH g1 dc f1 om,KH g2 dc f3 om⟩
 obtain⟨e0,a',b',bA',bB',lA',lB',sA',sB',R,g1,g2⟩:=a2N (w:=w2) vA vB nA nB qA qB tA ⟨tB2,tB⟩ M hw om;refine⟨a',b',sB.h+20,?_⟩;rw[if_neg hle];exact⟨vB.sc rfl,hk,e0,R.set ⟨by rw[vA.L.c];rfl,vA.L.am⟩ ⟨by rw[hsub.L.c];rfl,hsub.L.am⟩ ⟨g1.L.cg dc g1.b.1,g2.L.cg dc g2.b.1⟩,R.all.1,p6,
  ⟨g1.pen (FA1_no pA),g2.pen (FB1_no pB)⟩,⟨g1.L.cg dc g1.b.1,g2.L.cg dc g2.b.1⟩,KH g1 dc (by rw[Nat.add_zero];exact M.aa) om,KH g1 dc (by rw[Nat.sub_zero];exact M.ae) om,KH g2 dc (by rw[Nat.sub_zero];exact M.bb) om⟩
section
variable {nz no:Bs} {q qo:SpI} {z o:SpX} {gx:Nat} {id:Option Value} {n h2:Int}
theorem a9C (h:SpC z)(hk:A9 (j3 z.c) [107]+20=h2)(he:R6 z.c (j6 (N8 [99,47,120] [98,111,98] [97,110,110] (H9 (O5 n)) h2))=0) :
  Av.Spec prog GL 11 [ptr gx,K9 (YJ n) id] (C8 gx qo.g q.g nz no q qo z o) λu m=>∃ q':SpI,q'.g=q.g/\u=d9 true/\m=C8 gx qo.g q.g nz no q' qo (K7 z (j6 (N8 [99,47,120] [98,111,98] [97,110,110] (H9 (O5 n)) h2))) o:=by
 refine rT (f:=64) (D6 nz q z) (D6 no qo o) (.inr ⟨rfl,rfl,rfl⟩) rfl lpr ((Td (qo:=qo) h).mono ?_);rintro u m ⟨v,hu,rfl⟩;have e:U1 [99,47,120] [98,111,98] [97,110,110] (YJ n).n (A9 (j3 z.c) [107])=N8 [99,47,120] [98,111,98] [97,110,110] (H9 (O5 n)) h2:=by
  rw[a2E,hk];rfl
 rw[e] at hu ⊢;rw[dT he] at hu;exact⟨{ q with v:=v },rfl,hu,rfl⟩
end
end

attribute [local irreducible] j6 O7 N9 M9 Z9 O4 S9 K7 Z8 F9 N8
theorem a0f {x:Int}(h:0<=x/\x<=7):(H9 (O5 x)).n=(x+1).toNat:=by
 have e:∀ k:Int,k=0\/k=1\/k=2\/k=3\/k=4\/k=5\/k=6\/k=7->O5 k=(k+1).toNat:=by rintro k (rfl|rfl|rfl|rfl|rfl|rfl|rfl|rfl) <;> rfl
 rw[e x om,mO om]
theorem IU {n:Nat}(h:n<=2000):G6 (H9 n)=.agg 4 [.lit (.int .u64 (n:Int)),.lit (.int .u64 0),.lit (.int .u64 0),.lit (.int .u64 0)]:=by
 have e0:lm n 0=n:=by rw[zD];omega
 have e1:lm n 1=0:=by rw[DY];omega
 have e2:lm n 2=0:=by rw[DX];omega
 have e3:lm n 3=0:=by rw[DW];omega
 show aD (H9 n).n=_;rw[mO om];show AV.agg 4 [u6 (lm n 0),u6 (lm n 1),u6 (lm n 2),u6 (lm n 3)]=_;rw[e0,e1,e2,e3];rfl
set_option maxRecDepth 100000 in
theorem a8l {n m x y:Int}(hx:n%8=x)(hy:m%8=y):Av.Spec prog GL 3 [int n,int m] [] λu m=>u=d9 true/\m=[]:=by
 have hxr:0<=x/\x<=7:=om
 have hyr:0<=y/\y<=7:=om
 have ax:=a0f hxr;have ay:=a0f hyr;obtain⟨a0,b0,a1,b1,a2,b2,a3,b3,a4,b4,a5,b5,hN,a6,b6,bA,bB,S⟩:=Ip (n:=2000) dc (w:=H9 (O5 x)) (by rw[ax];omega);obtain⟨a7,b7,h2,T⟩:=a2R (w2:=H9 (O5 y)) S (by rw[ax];omega) (by rw[ay];omega);refine zc func3 ntmps3 λ_ hs=>?_;repeat' first|refine O ?_|intro
 refine J5 [] _ (EK (n:=2000) dc hN) (λu m1 hu=>?_);obtain⟨gx,q,q',rfl,rfl⟩:=hu;repeat' first|refine O ?_|intro
 refine VG ?_;rw[hx];repeat' first|refine O ?_|intro
 refine VG ?_;rw[hy];repeat' first|refine O ?_|intro
 refine VG ?_;rw[hx];repeat' first|refine O ?_|intro
 refine eH 29 (v':=K9 (SE x) none) NP ?_;refine J5 [] _ (Uw (n:=x) S.sa S.k S.e) (λu m1 hu=>?_);obtain⟨p,hg,rfl,rfl⟩:=hu;rw[<- hg];repeat' first|refine O ?_|intro
 repeat ((first|refine H6 ?_|refine D5 ?_);(repeat' (first|refine Za ?_|refine p9 (λ_=>?_)|intro _|simp only[List.set]|fail)))
 have hS:=Bh (na:=[97]) (nb:=[98]) (qa:=p) (qb:=q') (gx:=gx) S.t dc;rw[S.r] at hS;dsimp only at hS;rw[T.p6.1,T.p6.2] at hS;refine J5 [] _ hS (λu m1 hu=>?_);obtain⟨va,ra,vb,rb,rfl,rfl⟩:=hu;rw[show ((0+0:Nat):Int)=0 from rfl];repeat' first|refine O ?_|intro
 repeat ((first|refine H6 ?_|refine D5 ?_);(repeat' (first|refine Za ?_|refine p9 (λ_=>?_)|intro _|simp only[List.set]|fail)))
 refine VG ?_;rw[hy];repeat' first|refine O ?_|intro
 refine eH 40 (v':=K9 (YJ y) none) NP ?_;refine qQ (C8 gx p.g q'.g [98] [97] { q' with v:=vb,r:=rb } { p with v:=va,r:=ra } b6 a6) _ ?_ (List.Perm.cons _ List.perm_append_comm) slr;refine J5 [] _ (a9C (n:=y) (q:={ q' with v:=vb,r:=rb }) (qo:={ p with v:=va,r:=ra }) T.sb T.k T.e) (λu m1 hu=>?_);obtain⟨t,hg2,rfl,rfl⟩:=hu;have hg3:t.g=q'.g:=hg2;repeat' first|refine O ?_|intro
 have hS2:=Bh (na:=[97]) (nb:=[98]) (qa:={ p with v:=va,r:=ra }) (qb:=t) (gx:=gx) T.t dc;rw[T.r] at hS2;dsimp only at hS2;rw[T.p7.1,T.p7.2] at hS2;rw[<- hg3];refine qQ (C8 gx p.g t.g [97] [98] { p with v:=va,r:=ra } t a6 (K7 b6 (j6 (N8 [99,47,120] [98,111,98] [97,110,110] (H9 (O5 y)) h2)))) _ ?_ (List.Perm.cons _ List.perm_append_comm) slr;refine J5 [] _ hS2 (λu m1 hu=>?_);obtain⟨va2,ra2,vb2,rb2,rfl,rfl⟩:=hu;rw[show ((0+0:Nat):Int)=0 from rfl];have hka:=T.g.1.k;have hda:=hka.2;have hla:=hda.l;have hkb:=T.g.2.k;have hdb:=hkb.2;have hlb:=hdb.l;repeat' first|refine O ?_|intro
 refine J5 [] _ (bU (nz:=[97]) (no:=[98]) (q:={ p with v:=va2,r:=ra2 }) (qo:={ t with v:=vb2,r:=rb2 }) (z:=a7) (o:=b7) (gx:=gx) (ga:=p.g) (gb:=t.g) (i:=0) (.inl ⟨rfl,rfl,rfl⟩)) (λu m1 hu=>?_);obtain⟨rfl,rfl⟩:=hu;repeat' first|refine O ?_|intro
 refine qQ (C8 gx p.g t.g [98] [97] { t with v:=vb2,r:=rb2 } { p with v:=va2,r:=ra2 } b7 a7) _ ?_ (List.Perm.cons _ List.perm_append_comm) slr;refine J5 [] _ (bU (nz:=[98]) (no:=[97]) (q:={ t with v:=vb2,r:=rb2 }) (qo:={ p with v:=va2,r:=ra2 }) (z:=b7) (o:=a7) (gx:=gx) (ga:=p.g) (gb:=t.g) (i:=1) (.inr ⟨rfl,rfl,rfl⟩)) (λu m1 hu=>?_);obtain⟨rfl,rfl⟩:=hu;repeat' first|refine O ?_|intro
 by_cases hlt:1+x<1+y
 ·rw[dT hlt];have hv:(if (H9 (O5 y)).n<=(H9 (O5 x)).n then (H9 (O5 y)).n else 0)=0:=if_neg (by rw[ax,ay];omega);obtain⟨NA,hNA,an⟩:∃ N:Nat,(N:Int)=1000-(1+x)+0/\F9 (j3 a7.c) (F6 [97,110,110] [120])=H9 N:=⟨_,by rw[hv,ax];omega,T.an⟩;obtain⟨NE,hNE,es⟩:∃ N:Nat,(N:Int)=1+x-0/\F9 (j3 a7.c) (F6 [101,115,99,114,111,119,47,99] [120])=H9 N:=⟨_,by rw[hv,ax];omega,T.es⟩;obtain⟨NB,hNB,bo⟩:∃ N:Nat,(N:Int)=1+x-0/\F9 (j3 b7.c) (F6 [98,111,98] [99,47,120])=H9 N:=⟨_,by rw[hv,ax];omega,T.bo⟩;repeat' first|refine O ?_|intro
  rw[an,es,bo,IU (n:=NA) om,IU (n:=NE) om,IU (n:=NB) om];repeat' first|refine O ?_|intro
  repeat ((first|refine H6 ?_|refine D5 ?_);(repeat' (first|refine Za ?_|refine p9 (λ_=>?_)|intro _|simp only[]|fail)))
  refine x9 ?_;show d9 (decide ((NB:Int)=1+x-0))=d9 true;rw[dT hNB]
 rw[dZ hlt];have hv:(if (H9 (O5 y)).n<=(H9 (O5 x)).n then (H9 (O5 y)).n else 0)=(y+1).toNat:=by rw[if_pos (by rw[ax,ay];omega),ay]
 obtain⟨NA,hNA,an⟩:∃ N:Nat,(N:Int)=1000-(1+x)+(1+y)/\F9 (j3 a7.c) (F6 [97,110,110] [120])=H9 N:=⟨_,by rw[hv,ax];omega,T.an⟩;obtain⟨NE,hNE,es⟩:∃ N:Nat,(N:Int)=1+x-(1+y)/\F9 (j3 a7.c) (F6 [101,115,99,114,111,119,47,99] [120])=H9 N:=⟨_,by rw[hv,ax];omega,T.es⟩;obtain⟨NB,hNB,bo⟩:∃ N:Nat,(N:Int)=1+x-(1+y)/\F9 (j3 b7.c) (F6 [98,111,98] [99,47,120])=H9 N:=⟨_,by rw[hv,ax];omega,T.bo⟩;repeat' first|refine O ?_|intro
 rw[an,es,bo,IU (n:=NA) om,IU (n:=NE) om,IU (n:=NB) om];repeat' first|refine O ?_|intro
 repeat ((first|refine H6 ?_|refine D5 ?_);(repeat' (first|refine Za ?_|refine p9 (λ_=>?_)|intro _|simp only[]|fail)))
 refine x9 ?_;show d9 (decide ((NB:Int)=1+x-(1+y)))=d9 true;rw[dT hNB]
instance a8m {n m:Int}:Ans prog GL 3 [int n,int m] True (d9 true):=⟨λ_=>a8l rfl rfl⟩
end Go.Proofs.Z
