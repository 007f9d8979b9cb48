/- . -/
import Derived.Test.YtcdbijbhifhkeaaGreatDoorV42
set_option maxHeartbeats 64000000
namespace Go.Proofs.Z
open Go Go.RowKit Tw Av
attribute [local irreducible] j6 O7 N9 M9 Z9 O4 S9 K7 N8
abbrev iK:Bs:=F6 [97,110,110] [120]
abbrev lZ:Bs:=F6 (gK [99]) [120]
abbrev pE:Bs:=R9 [99,47,120]
abbrev gG:Bs:=F6 [98,111,98] [99,47,120]
abbrev lV (w:Wd)(h:Int):Pkt:=F7 [120] [97,110,110] [98,111,98] w h
structure NoS (F:Bs->Option Bs):Prop where
 n:F kN=none
 p:F kP=none
 g:F kG=none
def FA1 (F:Bs->Option Bs)(w:Wd)(h:Int):Bs->Option Bs:=D9 (D9 (D9 (D9 F iK (F4 (1000-w.n))) lZ (F4 (0+w.n))) kP (some (M9 (lV w h)))) kN (some (y9 110 2))
def FB1 (F:Bs->Option Bs)(w:Wd):Bs->Option Bs:=D9 (D9 (D9 F pE (F4 (0+w.n))) gG (F4 (0+w.n))) kG (some (Z9 [43]))
section
variable {a b:SpX} {bA bB:List BlkX} {lA lB:List Sta} {sA sB:Sta} {FA FB:Bs->Option Bs} {w:Wd}
theorem a2P (ha:SvS [97] [98] a bA [] lA sA 7 FA [])(hb:SvS [98] [97] b bB [] lB sB 7 FB [])(nA:bA.length=10)(nB:bB.length=10)(qA:lA.length=4)(qB:lB.length=4)(tA:sA.h=8)(tB:sB.h=10)(oA:NoS FA)(oB:NoS FB)
  (fA:FA iK=F4 1000/\FA lZ=F4 0) (fB:FB pE=F4 0/\FB gG=F4 0) (hw:1<=w.n/\w.n<=8) :
  R6 a.c (j6 (N8 [120] [97,110,110] [98,111,98] w (sA.h+20)))=0/\∃ a' b' bA' bB' lA' lB' sA' sB',RnL 6 (K7 a (j6 (N8 [120] [97,110,110] [98,111,98] w (sA.h+20))),b) (a',b') /\
   SvS [97] [98] a' bA' [] lA' sA' 10 (D9 (FA1 FA w (sA.h+20)) kP none) [⟨11,13,lV w (sA.h+20),[]⟩,⟨15,15,lV w (sA.h+20),[43]⟩]/\SvS [98] [97] b' bB' [] lB' sB' 10 (FB1 FB w) [⟨12,14,lV w (sA.h+20),[43]⟩] /\
   bA'.length=23/\bB'.length=22/\sA'.h<bB'.length/\sB'.h<bA'.length+2/\lA'.length=10/\lB'.length=10/\15<=sB'.h:=by
 have hpk:vY [120] [97,110,110] [98,111,98]=true:=dc
 have hsh:vP [120] [97,110,110] [98,111,98]:=⟨dc,dc,dc⟩;obtain⟨e0,sc0,tm0,a1,x1,hw1,ha1⟩:=ha.snd (w:=w) (m1:=8) (F1:=D9 (D9 FA iK (F4 (1000-w.n))) lZ (F4 (0+w.n))) rfl rfl oA.n hpk hsh om om (λD hM=>by
  obtain⟨d1,g1,g2⟩:=a2T (a:=w) (h:=sA.h+20) hM dc (p:=1000) (q:=0) (by rw[vC dc];exact fA.1) (by rw[vC dc];exact fA.2) dc dc om om;rw[wK dc,wK dc] at g2;exact⟨d1,g1,g2.mono (by have:=FV (v:=fC [98] lA sA FA (F6 (gK [99]) [120]));omega)⟩) dc (by rw[J2 dc,J2 dc]) (by rw[J2 dc,J2 dc]) om
 have hx1:(bA++[x1]).length=11:=by rw[lla,List.length_singleton,nA]
 refine⟨e0,?_⟩;generalize hh:sA.h+20=h at *;have hFP:D9 (D9 (D9 (D9 FA iK (F4 (1000-w.n))) lZ (F4 (0+w.n))) kP (some (M9 (lV w h)))) kN (some (y9 110 2)) kP=some (M9 (lV w h)):=by rw[J2 dc,iT]
 obtain⟨r1,bA2,ha2,n2⟩:=SvS.wait sc0 tm0 hw1 ha1 hb rfl rfl om om om (.inl rfl) rfl (by rw[hFP];rfl) oB.g om;obtain⟨r2,bB2,hb2,m2⟩:=SvS.rcv hb ha2 (w:=w) (h:=h) (m1:=9) (F1:=D9 (D9 FB pE (F4 (0+w.n))) gG (F4 (0+w.n))) rfl rfl om om om hpk hsh om rfl oB.g (.inl rfl) om hFP (λD hM=>by
  obtain⟨d1,g1,g2⟩:=a3O (a:=w) (h:=h) hM dc (p:=0) (q:=0) (by rw[vC dc];exact fB.1) (by rw[vC dc];exact fB.2) dc dc om om;rw[wK dc,wK dc] at g2;exact⟨d1,g1,g2.mono (by have:=FV (v:=fC [97] (lB++[sB]) (aR [97] bA2) FB (R9 [99,47,120]));have:=FV (v:=fC [97] (lB++[sB]) (aR [97] bA2) FB (F6 [98,111,98] [99,47,120]));omega)⟩) dc (by rw[J2 dc,J2 dc]) (by rw[J2 dc,J2 dc])
 have kA:((bA.length:Int)+1)=11:=om
 have kB:((bB.length:Int)+2)=12:=om
 have kA2:((bA2.length:Int)+2)=15:=om
 rw[kA] at ha2;rw[kB] at hb2;have hGB:D9 (D9 (D9 FB pE (F4 (0+w.n))) gG (F4 (0+w.n))) kG (some (Z9 [43])) kG=some (Z9 [43]):=iT;obtain⟨r3,bA3,ha3,n3⟩:=SvS.ack ha2 hb2 (w:=w) (h:=h) rfl rfl (by show (bB.length:Int)<bB2.length;omega) om (by rw[lla,List.length_singleton];omega) hpk hsh om rfl hFP (.inl rfl) om hGB (by
  show (if (14:Int)=14/\F7 [120] [97,110,110] [98,111,98] w h=F7 [120] [97,110,110] [98,111,98] w h then some [43] else none)=_;rw[if_pos ⟨rfl,rfl⟩])
 rw[kA2] at ha3;have eB2:=hb2.evh rfl;have eA3:=ha3.evh rfl;have iA:Idl (D9 (FA1 FA w h) kP none) [⟨11,13,lV w h,[]⟩,⟨15,15,lV w h,[43]⟩] [⟨12,14,lV w h,[43]⟩]:=⟨.inl rfl,.inr ⟨_,_,_,_,_,rfl,iT⟩⟩;have iB:Idl (FB1 FB w) [⟨12,14,lV w h,[43]⟩] [⟨11,13,lV w h,[]⟩,⟨15,15,lV w h,[43]⟩]:=⟨.inr ⟨_,_,_,_,_,rfl,by show (D9 _ kG _ kG).isSome=true;rw[iT];rfl⟩,.inl rfl⟩;obtain⟨r4,bB3,hb3,m3⟩:=hb2.rnd0 (hb2.sc rfl) (hb2.tm rfl) (EU hb2) ha3 rfl rfl (by show (bA2.length:Int)<bA3.length;omega) om (by rw[lla,List.length_singleton];omega) (λD hM=>KE hM (λv hv=>by have:=eB2 v hv;omega) eA3 iB);obtain⟨a',b',bA',bB',lA',lB',sA',sB',g0,g1,g2,g3,g4,g5,g6,g7,g8,g9⟩:=Aw 4 ha3 hb3 iA iB (by show (bB2.length:Int)<bB3.length;omega) (by show (bA3.length:Int)<bA3.length+2;omega) om om (by simp only[List.length_append,List.length_singleton];omega) (by simp only[List.length_append,List.length_singleton];omega);simp only[List.length_append,List.length_singleton] at g7 g8;exact⟨a',b',bA',bB',lA',lB',sA',sB',.step r1 r2 (.step r3 r4 g0),g1,g2,om,om,g5,g6,om,om,by have:(bA3.length:Int)<=sB'.h:=g9;omega⟩
end
end Go.Proofs.Z

namespace Go.Proofs.Z
open Go Go.RowKit Tw Av Go.Proofs.Tryz
section
variable {k:Bs}{v:Option Bs}{w:Wd}
theorem Wj:gO w9 kN=none:=by kernel_rfl
theorem a9U:gO w9 kP=none:=by kernel_rfl
theorem a9V:gO w9 kG=none:=by kernel_rfl
theorem b0d:gO w9 iK=F4 1000:=by kernel_rfl
theorem b0b:gO w9 lZ=F4 0:=by kernel_rfl
theorem a9X:gO w9 pE=F4 0:=by kernel_rfl
theorem b0c:gO w9 gG=F4 0:=by kernel_rfl
def NoP (F:Bs->Option Bs):Prop:=∀ k,k.head?=some 80->F k=none
theorem TW {d:List Ent}:gO d k=none↔∀ x∈d,x.key≠k:=by
 unfold gO kR;rw[Option.map_eq_none_iff,List.find?_eq_none];simp
theorem a5Z {E:List Ent}{q:Ent->Bool}{x:Ent}(h:x∈E.takeWhile q):q x=true:=by
 induction E with
 | nil=>cases h
 | cons a E ih=>
  rw[List.takeWhile_cons] at h;split at h
  ·rcases List.mem_cons.1 h with rfl|h
   ·assumption
   exact ih h
  cases h
theorem Nt {c:ChX}(h:∀ k,k.head?=some 80->gO (j3 c) k=none):iW c=0:=by
 unfold iW zY;rw[List.length_eq_zero_iff,List.eq_nil_iff_forall_not_mem];intro x hx;have h1:=a5Z hx;have h2:x∈j3 c:=List.drop_sublist _ _ |>.mem ((List.takeWhile_sublist _).mem hx)
 have h3:x.key.take (E5 [80] [99]).length=E5 [80] [99]:=of_decide_eq_true h1;have h4:x.key.head?=some 80:=by
  cases hk:x.key with
  | nil=>
   rw[hk] at h3;cases h3
  | cons y ys=>
   rw[hk] at h3;have h5:y::ys.take 5=80::[105,0,0,1,99]:=h3;injection h5 with h6 _
   rw[h6];rfl
 exact TW.1 (h _ h4) x h2 rfl
theorem b0e:NoP (gO w9):=λk hk=>TW.2 λx hx e=>by
 have h1:(w9.all λx=>!decide (x.key.head?=some 80))=true:=kr
 have h2:=List.all_eq_true.1 h1 x hx;rw[e,hk] at h2;cases h2
theorem NoP.up {F:Bs->Option Bs}(h:NoP F)(hk:k.head?≠some 80):NoP (D9 F k v):=λx hx=>by rw[J2 (λe=>hk (by rw[<- e];exact hx))];exact h x hx
theorem NoP.no {F:Bs->Option Bs}(h:NoP F):NoP (D9 (D9 F k v) k none):=λx hx=>by
 by_cases e:x=k
 ·rw[e,iT]
 rw[J2 e,J2 e];exact h x hx
theorem a1u {F:Bs->Option Bs}{k':Bs}{v':Option Bs}(h:k≠k'):D9 (D9 F k v) k' v'=D9 (D9 F k' v') k v:=by
 funext x
 unfold D9;by_cases h1:x=k'
 ·rw[if_pos h1,if_neg (by rw[h1];exact λe=>h e.symm),if_pos h1]
 rw[if_neg h1];split
 ·rfl
 rfl
theorem FA1_no {F:Bs->Option Bs}{h:Int}(hF:NoP F):NoP (D9 (FA1 F w h) kP none):=by
 unfold FA1;rw[a1u (show kN≠kP by decide)];exact((hF.up dc).up dc).no.up dc
theorem FB1_no {F:Bs->Option Bs}(hF:NoP F):NoP (FB1 F w):=((hF.up dc).up dc).up dc
theorem SvS.pen {nm no:Bs}{z:SpX}{bs:List BlkX}{ws:List Bs}{l:List Sta}{s:Sta}{m:Nat}{F:Bs->Option Bs}{ev:List EvX}(h:SvS nm no z bs ws l s m F ev)(hF:NoP F):iW z.c=0:=by
 refine Nt λk hk=>?_;rw[h.L.st,h.M.f,vC (λe=>by rw[e] at hk;exact absurd hk dc)];exact hF k hk
attribute [local irreducible] j6 O7 N9 M9 Z9 O4 S9
section
variable {nm no:Bs} {z o:SpX} {bs bo:List BlkX} {l lo:List Sta} {s so:Sta} {m:Nat}
theorem SdS.sv (h:SdS nm no z bs l s (some (E9 (Q5 3))) (some (E9 (U6 3))) 7)(hr:1000<=z.x.n)(hl:l.length<=24):SvS nm no z bs [] l s 7 (gO (Dm nm bs)) []:=by
 have hb:=h.b;refine⟨h.L,by unfold RmS;omega,om,h.c.g,hl,⟨wN h.L.ro.bg,h.n,λk=>?_⟩,dc,h.k,h.h,h.ev⟩;unfold fC D9;split
 ·rename_i hk;rw[hk];exact h.c.v
 rfl
theorem SdS.np (h:SdS nm no z bs l s (some (E9 (Q5 3))) (some (E9 (U6 3))) m):NoP (gO (Dm nm bs)):=λk hk=>by
 rw[h.o k (λe=>by rw[e] at hk;exact absurd hk dc) (λe=>by rw[e] at hk;exact absurd hk dc) (λe=>by rw[e] at hk;exact absurd hk dc)];exact b0e k hk
theorem SdS.gn (h:SdS nm no z bs l s (some (E9 (Q5 3))) (some (E9 (U6 3))) m):NoS (gO (Dm nm bs))/\gO (Dm nm bs) iK=F4 1000/\gO (Dm nm bs) lZ=F4 0/\gO (Dm nm bs) pE=F4 0/\gO (Dm nm bs) gG=F4 0:=
 ⟨⟨by rw[h.o _ dc dc dc,Wj],by rw[h.o _ dc dc dc,a9U],by rw[h.o _ dc dc dc,a9V]⟩,
  by rw[h.o _ dc dc dc,b0d],by rw[h.o _ dc dc dc,b0b],by rw[h.o _ dc dc dc,a9X],by rw[h.o _ dc dc dc,b0c]⟩
end
structure Sent1 (n:Int)(w:Wd)(a5 b5 a6 b6:SpX)(bA bB:List BlkX):Prop where
 sa:SpC a5
 k:A9 (j3 a5.c) [107]=8
 e:R6 a5.c (j6 (N8 [120] [97,110,110] [98,111,98] w 28))=0
 t:SetOk 6 (K7 a5 (j6 (N8 [120] [97,110,110] [98,111,98] w 28)),b5)
 r:Z8 6 (K7 a5 (j6 (N8 [120] [97,110,110] [98,111,98] w 28)),b5)=(a6,b6)
 v:∃ lA lB sA sB FA FB,SvS [97] [98] a6 bA [] lA sA 10 (D9 (FA1 FA w 28) kP none) [⟨11,13,lV w 28,[]⟩,⟨15,15,lV w 28,[43]⟩]/\SvS [98] [97] b6 bB [] lB sB 10 (FB1 FB w) [⟨12,14,lV w 28,[43]⟩]/\NoS FA/\NoS FB/\NoP FA/\NoP FB/\FA pE=F4 0/\FA gG=F4 0 /\
  bA.length=23/\bB.length=22/\sA.h<bB.length/\sB.h<bA.length+2/\lA.length=10/\lB.length=10/\15<=sB.h/\FA iK=F4 1000/\FB pE=F4 0
theorem Ip {n:Int}(hn:1000<=n/\n<=4096)(hw:1<=w.n/\w.n<=8):∃ a0 b0 a1 b1 a2 b2 a3 b3 a4 b4 a5 b5,NewOk n a0 b0 a1 b1 a2 b2 a3 b3 a4 b4 a5 b5/\∃ a6 b6 bA bB,Sent1 n w a5 b5 a6 b6 bA bB:=by
 obtain⟨a0,b0,a1,b1,a2,b2,a3,b3,a4,b4,a5,b5,hN,bA,bB,lA,lB,sA,sB,A,B,hl,hs,hlA,hlB,nA,nB⟩:=JU (n:=n) om;refine⟨a0,b0,a1,b1,a2,b2,a3,b3,a4,b4,a5,b5,hN,?_⟩;obtain⟨g1,g2,g3,g4,g5⟩:=A.gn;obtain⟨h1,_,_,h4,h5⟩:=B.gn;have VA:=A.sv om om;have VB:=B.sv om om;obtain⟨e,a',b',bA',bB',lA',lB',sA',sB',R,vA,vB,k1,k2,k3,k4,k5,k6,k7⟩:=a2P (w:=w) VA VB hl.1 hl.2 hlA hlB hs.1 hs.2 g1 h1 ⟨g2,g3⟩ ⟨h4,h5⟩ hw;rw[hs.1,show (8:Int)+20=28 from rfl] at e R vA vB;obtain⟨_,hsub⟩:=VA.sub (t:=j6 (N8 [120] [97,110,110] [98,111,98] w 28)) (MW (a:=w) (h:=28) ⟨dc,dc,dc⟩ dc).2;refine⟨a',b',bA',bB',⟨VA.sc rfl,?_,e,R.set ⟨by rw[hsub.L.c];rfl,hsub.L.am⟩ ⟨by rw[VB.L.c];rfl,VB.L.am⟩ ⟨vA.L.cg dc vA.b.1,vB.L.cg dc vB.b.1⟩,R.all.1,lA',lB',sA',sB',_,_,vA,vB,g1,h1,A.np,B.np,g4,g5,k1,k2,k3,k4,k5,k6,k7,g2,h4⟩⟩;rw[VA.L.st,VA.c.kn rfl,hs.1]
section
variable {nz no:Bs} {q qo:SpI} {z o:SpX} {gx ga gb:Nat} {id:Option Value} {n:Int}
def SE (n:Int):PlX:=⟨1,0,n,0,0,[],[]⟩
def YJ (n:Int):PlX:=⟨2,1,n,0,0,[],[]⟩
theorem a2E {d f g:Bs}{n k:Int}:U1 d f g n k=N8 d f g (H9 (O5 n)) (k+20):=rfl
theorem Uw (h:SpC z)(hk:A9 (j3 z.c) [107]=8)(he:R6 z.c (j6 (N8 [120] [97,110,110] [98,111,98] (H9 (O5 n)) 28))=0) :
  Av.Spec prog GL 11 [ptr gx,K9 (SE n) id] (C8 gx q.g qo.g nz no q qo z o) λu m=>∃ q':SpI,q'.g=q.g/\u=d9 true/\m=C8 gx q.g qo.g nz no q' qo (K7 z (j6 (N8 [120] [97,110,110] [98,111,98] (H9 (O5 n)) 28))) o:=by
 refine rT (f:=63) (D6 nz q z) (D6 no qo o) (.inl ⟨rfl,rfl,rfl⟩) rfl lpr ((Tc (qo:=qo) h).mono ?_);rintro u m ⟨v,hu,rfl⟩;have e:U1 [120] [97,110,110] [98,111,98] (SE n).n (A9 (j3 z.c) [107])=N8 [120] [97,110,110] [98,111,98] (H9 (O5 n)) 28:=by
  rw[hk];rfl
 rw[e] at hu ⊢;rw[dT he] at hu;exact⟨{ q with v:=v },rfl,hu,rfl⟩
set_option maxRecDepth 100000 in
theorem bU {i:Int}(hi:i=0/\ga=q.g/\gb=qo.g\/i=1/\ga=qo.g/\gb=q.g) :
  Av.Spec prog GL 13 [ptr gx,int i] (C8 gx ga gb nz no q qo z o) λu m=>u=ptr q.gc/\m=C8 gx ga gb nz no q qo z o:=by
 rcases hi with⟨rfl,rfl,rfl⟩|⟨rfl,rfl,rfl⟩
 ·refine zc func13 ntmps13 λ_ hs=>?_;repeat' first|refine O ?_|intro
  exact j4 _ ⟨rfl,rfl⟩ slr
 refine zc func13 ntmps13 λ_ hs=>?_;repeat' first|refine O ?_|intro
 exact j4 _ ⟨rfl,rfl⟩ slr
end
end

attribute [local irreducible] j6 O7 N9 M9 Z9 O4 S9 K7 Z8 F9
theorem NP {k s n:Int}:Imp (.agg 7 [int k,int s,int n,int 0,int 0,.lit (.slice none 0 0),str []]) (K9 ⟨k,s,n,0,0,[],[]⟩ none):=(ImpR.imp:Imp _ (.agg 7 [int k,int s,int n,int 0,int 0,.sl 1 [] none,str []]))
theorem a0i:(H9 (O5 4)).n=5:=by
 rw[show O5 4=5 from rfl];exact mO dc
set_option maxRecDepth 100000 in
instance d0h:Ans prog GL 9 [] True (d9 true):=⟨λ_=>by
 obtain⟨a0,b0,a1,b1,a2,b2,a3,b3,a4,b4,a5,b5,hN,a6,b6,bA,bB,S⟩:=Ip (n:=1000) dc (w:=H9 (O5 4)) (by rw[a0i];decide);refine zc func9 ntmps9 λ_ hs=>?_;repeat' first|refine O ?_|intro
 refine J5 [] _ (EK (n:=1000) dc hN) (λu m1 hu=>?_);obtain⟨gx,q,q',rfl,rfl⟩:=hu;repeat' first|refine O ?_|intro
 refine eH 9 (v':=K9 (SE 4) none) NP ?_;refine J5 [] _ (Uw (n:=4) S.sa S.k S.e) (λu m1 hu=>?_);obtain⟨p,hg,rfl,rfl⟩:=hu;rw[<- hg];repeat' first|refine O ?_|intro
 obtain⟨lA,lB,sA,sB,FA,FB,vA,vB,gA,gB,pA,pB,_,_,hr⟩:=S.v;have hp1:=vA.pen (FA1_no pA);have hp2:=vB.pen (FB1_no pB);have hS:=Bh (na:=[97]) (nb:=[98]) (qa:=p) (qb:=q') (gx:=gx) S.t dc;rw[S.r] at hS;dsimp only at hS;rw[hp1,hp2] at hS;refine J5 [] _ hS (λu m1 hu=>?_);obtain⟨va,ra,vb,rb,rfl,rfl⟩:=hu;rw[show ((0+0:Nat):Int)=0 from rfl];have hk:=(vB.L.cg dc vB.b.1).k;have hd:=hk.2;have hl:=hd.l;have hg:F9 (j3 b6.c) gG=H9 5:=by
  refine Wd.ext' ?_;rw[mO dc];refine yA ?_ dc;rw[vB.L.st,vB.M.g dc,show FB1 FB (H9 (O5 4)) gG=F4 (0+(H9 (O5 4)).n) from by unfold FB1;rw[J2 dc,iT],a0i]
 repeat' first|refine O ?_|intro
 refine qQ (C8 gx p.g q'.g [98] [97] { q' with v:=vb,r:=rb } { p with v:=va,r:=ra } b6 a6) _ ?_ (List.Perm.cons _ List.perm_append_comm) slr;refine J5 [] _ (bU (nz:=[98]) (no:=[97]) (q:={ q' with v:=vb,r:=rb }) (qo:={ p with v:=va,r:=ra }) (z:=b6) (o:=a6) (gx:=gx) (ga:=p.g) (gb:=q'.g) (i:=1) (.inr ⟨rfl,rfl,rfl⟩)) (λu m1 hu=>?_);obtain⟨rfl,rfl⟩:=hu;repeat' first|refine O ?_|intro
 rw[hg,a1l];repeat' first|refine O ?_|intro
 repeat (refine D5 ?_;(repeat' (first|refine Za ?_|refine p9 (λ_=>?_)|intro _|simp only[]|fail)))
 refine x9 ?_;show d9 (decide True)=d9 true;rw[decide_true]⟩
end Go.Proofs.Z
