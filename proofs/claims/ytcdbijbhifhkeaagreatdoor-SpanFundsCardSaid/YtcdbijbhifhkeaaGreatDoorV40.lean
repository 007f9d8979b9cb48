/- . -/
import Derived.Test.YtcdbijbhifhkeaaGreatDoorV39
set_option maxHeartbeats 64000000
namespace Go.Proofs.Z
open Go Go.RowKit Tw Av
def O9 (l:List Ent)(k:Bs):Prf:=fV l (G5 l k) (K8 l k)
abbrev kK:Bs:=E5 [75] [110]
abbrev kH:Bs:=E5 [72] [99]
def Q5 (n:Int):EndX:=⟨n,[107],[107],if n=1 then [] else [110]⟩
def U6 (n:Int):EndX:=⟨n,[110],[110],if n=1 then [] else [99]⟩
def dD (k t:Int)(f:Prf):TxX:={ X0 with k:=k,i:=[110],o:=[107],p:=[110],q:=[107],t:=t,f:=f }
def dE (k t:Int)(f:Prf):TxX:={ X0 with k:=k,i:=[99],o:=[110],p:=[99],q:=[110],t:=t,f:=f }
theorem b1E {l:List Ent}{k v:Bs}(hl:DOk l)(hv:gO l k=some v):K8 l k=true/\∃ h:G5 l k<l.length,l[G5 l k]=⟨k,v⟩:=by
 obtain⟨A,B,hA,hB,hlen,h⟩:=wX k hl.s;obtain⟨g1,g2⟩:=OU hA hB;rcases h with⟨_,rfl⟩|⟨w,hb,rfl⟩
 ·unfold gO at hv;rw[g1] at hv;cases hv
 unfold gO at hv;rw[g2] at hv;obtain rfl:w=v:=by
  injection hv
 refine⟨hb,by rw[hlen,List.length_append];simp,?_⟩;simp only[hlen];rw[List.getElem_append_right (Nat.le_refl _)];simp
section
variable {nm:Bs} {L:List Sta} {s:Sta} {d l:List Ent} {h:Int} {k v:Bs}
theorem a7w (hl:DOk l)(hv:gO l k=some v):uW (N9 l) ⟨k,v⟩ (O9 l k)=true:=by
 obtain⟨hb,hi,he⟩:=b1E hl hv;have:=a7v hi hl.l;rw[he] at this;unfold O9 fV;rw[hb,if_pos rfl];exact this
theorem DC (hn:nm.length=1)(c:CliG d nm L s)(hl:DOk l)(hr:s.r=N9 l)(hv:gO l k=some v):Q3 d [107] s.h 0 k v (O9 l k)=0:=by
 obtain⟨h1,h2⟩:=c.st hn;have e:uW (nW d [107] s.h 0).r ⟨k,v⟩ (O9 l k)=true:=by
  rw[h2,hr];exact a7w hl hv
 unfold Q3;rw[if_neg (by rw[e];simp),h1]
theorem wL {i:Bs}{e:EndX}(hv:gO d (E5 k i)=some (E9 e))(h1:lS (E9 e)=e)(h2:oH (E9 e)=0):M5 d k i=true/\I1 d k i=e:=by
 have:=WB hv;unfold M5 I1;rw[this,h1,h2];exact⟨rfl,rfl⟩
theorem UF {i:Bs}(hv:gO d (E5 k i)=none):M5 d k i=false:=by
 have e:P7 d (E5 k i)=[]:=by
  unfold P7;rw[hv];rfl
 have e2:oH []=10:=kr
 unfold M5;rw[e,e2];exact dZ dc
theorem dL:∀ n:Int,n=1\/n=2\/n=3->lS (E9 (Q5 n))=Q5 n/\oH (E9 (Q5 n))=0/\(E9 (Q5 n)).length<=4000/\lS (E9 (U6 n))=U6 n/\oH (E9 (U6 n))=0/\(E9 (U6 n)).length<=4000:=by
 rintro n (rfl|rfl|rfl)
 all_goals exact⟨kr,kr,nlb kr,kr,kr,nlb kr⟩
def HsG (d:List Ent)(k v:Bs)(o:Out18):Prop:=o=(O8 d k v,oG)/\DOk (O8 d k v)
theorem CZ (hd:DOk d)(hl:d.length<2000)(hk:k.length<=400)(hv:v.length<=4000){o:Out18}(ho:o=kQ d k v):HsG d k v o:=by
 obtain⟨h1,h2⟩:=YB hd hl hk hv;exact⟨ho.trans h1,h2⟩
variable {t:Int} {f:Prf}
theorem b0r (hd:DOk d)(hl:d.length<2000)(hn:nm.length=1)(c:CliG d nm L s)(h0:gO d kK=none):HsG d kK (E9 (Q5 1)) (u7 d (dD 5 t f) h 0):=by
 refine CZ hd hl dc (dL 1 dc).2.2.1 ?_;show qK d (dD 5 t f) 0=_;unfold qK dD;dsimp only;rw[if_neg dc,if_neg (by rw[UF h0];decide),if_neg (by rw[c.b hn];decide)];unfold nS;dsimp only;rw[if_pos (by rfl),if_neg dc];rfl
theorem b0q (hd:DOk d)(hl:d.length<2000)(hn:nm.length=1)(c:CliG d nm L s)(h0:gO d kK=none)(hq:DOk l)(hr:s.r=N9 l)(hv:gO l kK=some (E9 (Q5 1))):HsG d kK (E9 (Q5 2)) (u7 d (dD 6 s.h (O9 l kK)) h 0):=by
 refine CZ hd hl dc (dL 2 dc).2.2.1 ?_;have e:Q3 d [107] s.h 0 kK (E9 (Q5 1)) (O9 l kK)=0:=DC hn c hq hr hv;rw[a9G rfl];unfold Ct dD;dsimp only;rw[if_neg dc,if_neg (by rw[UF h0];decide),if_neg (by rw[c.b hn];decide)];unfold LC;dsimp only;rw[if_neg (show ¬ (Q3 d [107] s.h 0 (E5 [75] [110]) (E9 ⟨1,[107],[107],[]⟩) (O9 l kK)≠0) from λh=>h e),if_neg dc];rfl
theorem b0p (hd:DOk d)(hl:d.length<2000)(hn:nm.length=1)(c:CliG d nm L s)(h0:gO d kK=some (E9 (Q5 1)))(hq:DOk l)(hr:s.r=N9 l)(hv:gO l kK=some (E9 (Q5 2))):HsG d kK (E9 (Q5 3)) (u7 d (dD 7 s.h (O9 l kK)) h 0):=by
 refine CZ hd hl dc (dL 3 dc).2.2.1 ?_;have e:Q3 d [107] s.h 0 kK (E9 (Q5 2)) (O9 l kK)=0:=DC hn c hq hr hv;obtain⟨b1,b2⟩:=wL h0 (dL 1 dc).1 (dL 1 dc).2.1;rw[a9F rfl];unfold KV dD;dsimp only;rw[if_neg (by rw[b1];decide),b2];unfold zG;dsimp only;rw[if_neg (show ¬ (Q3 d (Q5 1).o s.h 0 (E5 [75] [110]) (E9 (iC (Q5 1) [110] true)) (O9 l kK)≠0) from λh=>h e),if_neg dc];rfl
theorem b0o (hd:DOk d)(hl:d.length<2000)(hn:nm.length=1)(c:CliG d nm L s)(h0:gO d kK=some (E9 (Q5 2)))(hq:DOk l)(hr:s.r=N9 l)(hv:gO l kK=some (E9 (Q5 3))):HsG d kK (E9 (Q5 3)) (u7 d (dD 8 s.h (O9 l kK)) h 0):=by
 refine CZ hd hl dc (dL 3 dc).2.2.1 ?_;have e:Q3 d [107] s.h 0 kK (E9 (Q5 3)) (O9 l kK)=0:=DC hn c hq hr hv;obtain⟨b1,b2⟩:=wL h0 (dL 2 dc).1 (dL 2 dc).2.1;rw[a9E rfl];unfold KV dD;dsimp only;rw[if_neg (by rw[b1];decide),b2];unfold zG;dsimp only;rw[if_neg (show ¬ (Q3 d (Q5 2).o s.h 0 (E5 [75] (Q5 2).p) (E9 (iC (Q5 2) [110] false)) (O9 l kK)≠0) from λh=>h e),if_neg dc];rfl
theorem b0L (hd:DOk d)(hl:d.length<2000)(h3:gO d kK=some (E9 (Q5 3)))(h0:gO d kH=none):HsG d kH (E9 (U6 1)) (u7 d (dE 9 t f) h 0):=by
 refine CZ hd hl dc (dL 1 dc).2.2.2.2.2 ?_;obtain⟨b1,b2⟩:=wL h3 (dL 3 dc).1 (dL 3 dc).2.1;show qG d (dE 9 t f) 0=_;unfold qG dE;dsimp only;rw[if_neg dc,if_neg (by rw[UF h0];decide),if_neg (by rw[b1];decide),b2,if_neg dc];unfold nS;dsimp only;rw[if_pos (by rfl),if_neg dc];rfl
theorem b0O (hd:DOk d)(hl:d.length<2000)(hn:nm.length=1)(c:CliG d nm L s)(h3:gO d kK=some (E9 (Q5 3)))(h0:gO d kH=none)(hq:DOk l)(hr:s.r=N9 l)(hv:gO l kH=some (E9 (U6 1))):HsG d kH (E9 (U6 2)) (u7 d (dE 10 s.h (O9 l kH)) h 0):=by
 refine CZ hd hl dc (dL 2 dc).2.2.2.2.2 ?_;have e:Q3 d [107] s.h 0 kH (E9 (U6 1)) (O9 l kH)=0:=DC hn c hq hr hv;obtain⟨b1,b2⟩:=wL h3 (dL 3 dc).1 (dL 3 dc).2.1;rw[a9J rfl];unfold YQ dE;dsimp only;rw[if_neg dc,if_neg (by rw[UF h0];decide),if_neg (by rw[b1];decide),b2,if_neg dc];unfold LC;dsimp only;rw[if_neg (show ¬ (Q3 d (Q5 3).o s.h 0 (E5 [72] [99]) (E9 ⟨1,[110],[110],[]⟩) (O9 l kH)≠0) from λh=>h e),if_neg dc];rfl
theorem b0N (hd:DOk d)(hl:d.length<2000)(hn:nm.length=1)(c:CliG d nm L s)(h3:gO d kK=some (E9 (Q5 3)))(h0:gO d kH=some (E9 (U6 1)))(hq:DOk l)(hr:s.r=N9 l)(hv:gO l kH=some (E9 (U6 2))):HsG d kH (E9 (U6 3)) (u7 d (dE 11 s.h (O9 l kH)) h 0):=by
 refine CZ hd hl dc (dL 3 dc).2.2.2.2.2 ?_;have e:Q3 d [107] s.h 0 kH (E9 (U6 2)) (O9 l kH)=0:=DC hn c hq hr hv;obtain⟨b1,b2⟩:=wL h3 (dL 3 dc).1 (dL 3 dc).2.1;obtain⟨a1,a2⟩:=wL h0 (dL 1 dc).2.2.2.1 (dL 1 dc).2.2.2.2.1;rw[a9I rfl];unfold JP dE;dsimp only;rw[a2,show (U6 1).o=[110] from rfl,b2,if_neg (by rw[a1,b1];decide)];unfold zG;dsimp only;rw[if_neg (show ¬ (Q3 d (Q5 3).o s.h 0 (E5 [72] [99]) (E9 (iC (U6 1) [99] true)) (O9 l kH)≠0) from λh=>h e),if_neg dc];rfl
theorem b0M (hd:DOk d)(hl:d.length<2000)(hn:nm.length=1)(c:CliG d nm L s)(h3:gO d kK=some (E9 (Q5 3)))(h0:gO d kH=some (E9 (U6 2)))(hq:DOk l)(hr:s.r=N9 l)(hv:gO l kH=some (E9 (U6 3))):HsG d kH (E9 (U6 3)) (u7 d (dE 12 s.h (O9 l kH)) h 0):=by
 refine CZ hd hl dc (dL 3 dc).2.2.2.2.2 ?_;have e:Q3 d [107] s.h 0 kH (E9 (U6 3)) (O9 l kH)=0:=DC hn c hq hr hv;obtain⟨b1,b2⟩:=wL h3 (dL 3 dc).1 (dL 3 dc).2.1;obtain⟨a1,a2⟩:=wL h0 (dL 2 dc).2.2.2.1 (dL 2 dc).2.2.2.2.1;rw[a9H rfl];unfold JP dE;dsimp only;rw[a2,show (U6 2).o=[110] from rfl,b2,if_neg (by rw[a1,b1];decide)];unfold zG;dsimp only;rw[if_neg (show ¬ (Q3 d (Q5 3).o s.h 0 (E5 [72] (U6 2).p) (E9 (iC (U6 2) [99] false)) (O9 l kH)≠0) from λh=>h e),if_neg dc];rfl
end
end Go.Proofs.Z

namespace Go.Proofs.Z
open Go Go.RowKit Tw Av Go.Proofs.Tryz
section
def EF (x:TxX)(key:Bs)(z o:ChX):TxX:={ x with t:=A9 (j3 z) [107],f:=O9 (Q7 o (A9 (j3 z) [107])) key }
structure HandOk (z o z':SpX)(x:TxX)(key:Bs):Prop where
 a:SpC z
 b:SpC o
 c1:(K7 z (j6 (O3 o.c))).c.dd=false->ChOk z.x z.s (K7 z (j6 (O3 o.c))).c
 r1:(S9 z (j6 (O3 o.c))).2=true
 a1:SpC (S9 z (j6 (O3 o.c))).1
 w:TxW (EF x key (S9 z (j6 (O3 o.c))).1.c o.c)
 c2:(K7 (S9 z (j6 (O3 o.c))).1 (j6 (EF x key (S9 z (j6 (O3 o.c))).1.c o.c))).c.dd=false->ChOk (S9 z (j6 (O3 o.c))).1.x (S9 z (j6 (O3 o.c))).1.s (K7 (S9 z (j6 (O3 o.c))).1 (j6 (EF x key (S9 z (j6 (O3 o.c))).1.c o.c))).c
 e:S9 (S9 z (j6 (O3 o.c))).1 (j6 (EF x key (S9 z (j6 (O3 o.c))).1.c o.c))=(z',true)
attribute [local irreducible] H9 j6 R6 A9 eU O7
section
variable {nz no:Bs} {q qo:SpI} {z o z':SpX} {gx ga gb:Nat} {x:TxX} {key:Bs} {i:Int}
theorem Py (h:CG o.c)(k:Int):(Q7 o.c k).length<=2000:=(Pw (k:=k) h.m).l
set_option maxRecDepth 100000 in
theorem Sv (hi:i=0/\ga=q.g/\gb=qo.g\/i=1/\ga=qo.g/\gb=q.g)(h:HandOk z o z' x key) :
  Av.Spec prog GL 62 [ptr gx,int i,D8 x,str key] (C8 gx ga gb nz no q qo z o) λu m=>∃ q':SpI,q'.g=q.g/\u=d9 true/\m=C8 gx ga gb nz no q' qo z' o:=by
 have hwl:=h.a.w;have hu:=OP h.b.g;have hw:=Az h.b.g;have hr:=h.a.r;have hml:=h.b.g.k.1.2;rcases hi with⟨rfl,rfl,rfl⟩|⟨rfl,rfl,rfl⟩
 ·refine zc func62 ntmps62 λ_ hs=>?_;repeat' first|refine O ?_|intro
  rename_i gT gU;rw[show eT [107] (eU o.c) (O7 o.c.ky (eU o.c))=O3 o.c from rfl];refine aI [_,_,_] (D6 nz q z) (D6 no qo o) (GJ (nm:=nz) (q:=q) (z:=z) hw om h.c1 om) (λu m1 hu=>?_);obtain⟨v,r,rfl,rfl⟩:=hu;rw[h.r1];have hC1:=h.a1.g.k;have hk1:=KD (j3 (S9 z (j6 (O3 o.c))).1.c) [107];have hX:=h.w;have hc2:=h.c2;have he:=h.e;have hw1:=h.a1.w;have hr1:=h.a1.r;have hML:=Py h.b.g (A9 (j3 (S9 z (j6 (O3 o.c))).1.c) [107]);clear h;unfold EF at hX hc2 he;generalize (S9 z (j6 (O3 o.c))).1=z1 at *;have hmk:(if 0<=A9 (j3 z1.c) [107]/\A9 (j3 z1.c) [107]<(o.c.ms.length:Int) then o.c.ms.getD (A9 (j3 z1.c) [107]).toNat [] else [])=Q7 o.c (A9 (j3 z1.c) [107]):=rfl;repeat' first|refine O ?_|intro
  generalize A9 (j3 z1.c) [107]=k at *;apply zd [14];exact zg
  ·intro _ _;refine bV ?_;exact j5 (A7 rfl rfl)
  repeat' first|refine O ?_|intro
  apply zd [16];exact zg
  ·intro _ _;refine dH ?_;exact j5 (A7 rfl rfl)
  rw[hmk];repeat' first|refine O ?_|intro
  rename_i gD;apply iX [25];exact rfl;exact rfl;kernel_rfl
  ·intro _ _;refine gW ?_;exact j5 (jJ rfl)
  ·exact rfl
  ·exact rfl
  generalize Q7 o.c k=M at *;refine DJ (.var gU 100 (D8 (O3 o.c))::.var gT 100 (D8 { x with t:=k })::.var gx 75 (xA q.g qo.g)::(D6 nz { q with v:=v,r:=r } z1++D6 no qo o++[.var gD 32 (dA M)])) ?_ kr;repeat' first|refine O ?_|intro
  refine aI [_,_,_] (D6 nz { q with v:=v,r:=r } z1) (D6 no qo o++[.var gD 32 (dA M)]) (GJ (nm:=nz) (q:={ q with v:=v,r:=r }) (z:=z1) (x:={ x with t:=k,f:=O9 M key }) hX om hc2 om) (λu m1 hu=>?_);obtain⟨v',r',rfl,rfl⟩:=hu;rw[he];repeat' first|refine O ?_|intro
  exact j4 (C8 gx q.g qo.g nz no { q with v:=v',r:=r' } qo z' o) ⟨{ q with v:=v',r:=r' },rfl,rfl,rfl⟩ zb
 refine zc func62 ntmps62 λ_ hs=>?_;repeat' first|refine O ?_|intro
 rename_i gT gU;rw[show eT [107] (eU o.c) (O7 o.c.ky (eU o.c))=O3 o.c from rfl];refine aI [_,_,_] (D6 nz q z) (D6 no qo o) (GJ (nm:=nz) (q:=q) (z:=z) hw om h.c1 om) (λu m1 hu=>?_);obtain⟨v,r,rfl,rfl⟩:=hu;rw[h.r1];have hC1:=h.a1.g.k;have hk1:=KD (j3 (S9 z (j6 (O3 o.c))).1.c) [107];have hX:=h.w;have hc2:=h.c2;have he:=h.e;have hw1:=h.a1.w;have hr1:=h.a1.r;have hML:=Py h.b.g (A9 (j3 (S9 z (j6 (O3 o.c))).1.c) [107]);clear h;unfold EF at hX hc2 he;generalize (S9 z (j6 (O3 o.c))).1=z1 at *;have hmk:(if 0<=A9 (j3 z1.c) [107]/\A9 (j3 z1.c) [107]<(o.c.ms.length:Int) then o.c.ms.getD (A9 (j3 z1.c) [107]).toNat [] else [])=Q7 o.c (A9 (j3 z1.c) [107]):=rfl;repeat' first|refine O ?_|intro
 generalize A9 (j3 z1.c) [107]=k at *;apply zd [14];exact zg
 ·intro _ _;refine bV ?_;exact j5 (A7 rfl rfl)
 repeat' first|refine O ?_|intro
 apply zd [16];exact zg
 ·intro _ _;refine dH ?_;exact j5 (A7 rfl rfl)
 rw[hmk];repeat' first|refine O ?_|intro
 rename_i gD;apply iX [25];exact rfl;exact rfl;kernel_rfl
 ·intro _ _;refine gW ?_;exact j5 (jJ rfl)
 ·exact rfl
 ·exact rfl
 generalize Q7 o.c k=M at *;refine DJ (.var gU 100 (D8 (O3 o.c))::.var gT 100 (D8 { x with t:=k })::.var gx 75 (xA qo.g q.g)::(D6 nz { q with v:=v,r:=r } z1++D6 no qo o++[.var gD 32 (dA M)])) ?_ kr;repeat' first|refine O ?_|intro
 refine aI [_,_,_] (D6 nz { q with v:=v,r:=r } z1) (D6 no qo o++[.var gD 32 (dA M)]) (GJ (nm:=nz) (q:={ q with v:=v,r:=r }) (z:=z1) (x:={ x with t:=k,f:=O9 M key }) hX om hc2 om) (λu m1 hu=>?_);obtain⟨v',r',rfl,rfl⟩:=hu;rw[he];repeat' first|refine O ?_|intro
 exact j4 (C8 gx qo.g q.g nz no { q with v:=v',r:=r' } qo z' o) ⟨{ q with v:=v',r:=r' },rfl,rfl,rfl⟩ zb
end
end

section
variable {k:Int}{ga gb:Nat}
theorem Xb {i o p q:Bs}:ImpC (.agg 100 [int k,str i,str o,str p,str q,str [],int 0,.agg 35 [str [],int 0,int 0,hA G8],hA G8,.agg 12 [int 0,str [],str [],.agg 7 [str [],.agg 4 [.lit (.int .u64 0),.lit (.int .u64 0),.lit (.int .u64 0),.lit (.int .u64 0)],str [],str []],int 0,int 0],str [],int 0,.agg 3 [int 0,int 0,K5],.agg 9 [int 0,K5,K5,.agg 3 [int 0,int 0,K5],.agg 3 [int 0,int 0,K5]]]) (D8 { X0 with k:=k,i:=i,o:=o,p:=p,q:=q }):=by
 show ImpC _ (.agg 100 [int k,str i,str o,str p,str q,str [],int 0,.agg 35 [str [],int 0,int 0,hA G8],hA G8,.agg 12 [int 0,str [],str [],.agg 7 [str [],G6 wZ,str [],str []],int 0,int 0],str [],int 0,.agg 3 [int 0,int 0,.sl 32 [] none],.agg 9 [int 0,.sl 2 [] none,.sl 2 [] none,.agg 3 [int 0,int 0,.sl 32 [] none],.agg 3 [int 0,int 0,.sl 32 [] none]]]);rw[Fx];exact(inferInstance:ImpT _ _).imp
set_option maxRecDepth 100000 in
instance c2c :Ans prog GL 60 [int k] True (D8 (dD k 0 P6)):=⟨λ_=>by
 refine zc func60 ntmps60 λ_ hs=>?_;repeat' first|refine O ?_|intro
 rename_i gt;refine IL (g:=gt) (v':=D8 (dD k 0 P6)) Xb ?_;exact x9 rfl⟩
set_option maxRecDepth 100000 in
instance c2b :Ans prog GL 61 [int k] True (D8 (dE k 0 P6)):=⟨λ_=>by
 refine zc func61 ntmps61 λ_ hs=>?_;repeat' first|refine O ?_|intro
 rename_i gt;refine IL (g:=gt) (v':=D8 (dE k 0 P6)) Xb ?_;exact x9 rfl⟩
section
variable {na nb:Bs} {qa qb:SpI} {a b a1 b1 a2 b2 a3 b3 a4 b4:SpX} {gx:Nat}
theorem QL {P:Program}{gl:List (Nat × AV)}{f:FuncId}{args:List AV}{m m':List Av.Piece}{K K':AV->List Av.Piece->Prop}(h:Av.Spec P gl f args m K)(hp:m'.Perm m)(hk:∀ u n,K u n->∃ n',n.Perm n'/\K' u n'):Av.Spec P gl f args m' K':=Av.Spec.mk λok w c hS hv=>by
 have e:X3 gl m' ok w=X3 gl m ok w:=by
  unfold X3;congr 1
  funext b
  exact propext ⟨fun⟨p,h1,h2⟩=>⟨p,hp.mem_iff.1 h1,h2⟩,fun⟨p,h1,h2⟩=>⟨p,hp.mem_iff.2 h1,h2⟩⟩
 rw[e] at hS ⊢;exact Calls.mono (h.run ok w c (hS.perm hp.symm) hv) λ_ _ ⟨v,n,ok',cv,g,h1,h2,h3⟩=>let ⟨n',q1,q2⟩:=hk v n g;⟨v,n',ok',cv,q2,h1,h2,h3.perm q1.symm⟩
theorem Np {gx:Nat}{na nb:Bs}{qa qb:SpI}{a b:SpX}:(C8 gx ga gb na nb qa qb a b).Perm (C8 gx ga gb nb na qb qa b a):=List.Perm.cons _ List.perm_append_comm
theorem TZ {x:TxX}{key:Bs}(ha:qa.g=ga)(hb:qb.g=gb)(h:HandOk a b a1 x key):Av.Spec prog GL 62 [ptr gx,int 0,D8 x,str key] (C8 gx ga gb na nb qa qb a b) λu m=>∃ q:SpI,q.g=ga/\u=d9 true/\m=C8 gx ga gb na nb q qb a1 b:=by
 subst ha hb;exact Sv (.inl ⟨rfl,rfl,rfl⟩) h
theorem TY {x:TxX}{key:Bs}(ha:qa.g=ga)(hb:qb.g=gb)(h:HandOk b a b1 x key):Av.Spec prog GL 62 [ptr gx,int 1,D8 x,str key] (C8 gx ga gb na nb qa qb a b) λu m=>∃ q:SpI,q.g=gb/\u=d9 true/\m=C8 gx ga gb na nb qa q a b1:=by
 subst ha hb;refine QL (Sv (nz:=nb) (no:=na) (q:=qb) (qo:=qa) (gx:=gx) (ga:=qa.g) (gb:=qb.g) (.inr ⟨rfl,rfl,rfl⟩) h) Np ?_;rintro u n ⟨q,h1,rfl,rfl⟩;exact⟨_,Np,q,h1,rfl,rfl⟩
set_option maxRecDepth 100000 in
theorem a8c (h1:HandOk a b a1 (dD 5 0 P6) kK)(h2:HandOk b a1 b1 (dD 6 0 P6) kK)(h3:HandOk a1 b1 a2 (dD 7 0 P6) kK)(h4:HandOk b1 a2 b2 (dD 8 0 P6) kK)
  (h5:HandOk a2 b2 a3 (dE 9 0 P6) kH) (h6:HandOk b2 a3 b3 (dE 10 0 P6) kH) (h7:HandOk a3 b3 a4 (dE 11 0 P6) kH) (h8:HandOk b3 a4 b4 (dE 12 0 P6) kH) :
  Av.Spec prog GL 34 [ptr gx] (C8 gx qa.g qb.g na nb qa qb a b) λu m=>∃ q q':SpI,q.g=qa.g/\q'.g=qb.g/\u=d9 true/\m=C8 gx qa.g qb.g na nb q q' a4 b4:=by
 refine zc func34 ntmps34 λ_ hs=>?_;repeat' first|refine O ?_|intro
 refine T9 (TZ (gx:=gx) (qa:=qa) (qb:=qb) (na:=na) (nb:=nb) rfl rfl h1) (λu m1 hu=>?_);obtain⟨p1,e1,rfl,rfl⟩:=hu;repeat' first|refine O ?_|intro
 refine T9 (TY (gx:=gx) (qa:=p1) (qb:=qb) (na:=na) (nb:=nb) e1 rfl h2) (λu m1 hu=>?_);obtain⟨p2,e2,rfl,rfl⟩:=hu;repeat' first|refine O ?_|intro
 refine T9 (TZ (gx:=gx) (qa:=p1) (qb:=p2) (na:=na) (nb:=nb) e1 e2 h3) (λu m1 hu=>?_);obtain⟨p3,e3,rfl,rfl⟩:=hu;repeat' first|refine O ?_|intro
 refine T9 (TY (gx:=gx) (qa:=p3) (qb:=p2) (na:=na) (nb:=nb) e3 e2 h4) (λu m1 hu=>?_);obtain⟨p4,e4,rfl,rfl⟩:=hu;repeat' first|refine O ?_|intro
 refine T9 (TZ (gx:=gx) (qa:=p3) (qb:=p4) (na:=na) (nb:=nb) e3 e4 h5) (λu m1 hu=>?_);obtain⟨p5,e5,rfl,rfl⟩:=hu;repeat' first|refine O ?_|intro
 refine T9 (TY (gx:=gx) (qa:=p5) (qb:=p4) (na:=na) (nb:=nb) e5 e4 h6) (λu m1 hu=>?_);obtain⟨p6,e6,rfl,rfl⟩:=hu;repeat' first|refine O ?_|intro
 refine T9 (TZ (gx:=gx) (qa:=p5) (qb:=p6) (na:=na) (nb:=nb) e5 e6 h7) (λu m1 hu=>?_);obtain⟨p7,e7,rfl,rfl⟩:=hu;repeat' first|refine O ?_|intro
 refine T9 (TY (gx:=gx) (qa:=p7) (qb:=p6) (na:=na) (nb:=nb) e7 e6 h8) (λu m1 hu=>?_);obtain⟨p8,e8,rfl,rfl⟩:=hu;repeat' first|refine O ?_|intro
 exact j4 _ ⟨p7,p8,e7,e8,rfl,rfl⟩ slr
end
end

section
section
variable {P:Program} {N:Nat} {ops:Array Oper} {Q:Exit->Act->World->Prop} {rest:List Oper} {s:Av.Base} {e:Av.Env} {m:List Av.Piece} {d:Nat} {ty:TypeId} {pos:String} {af:Array Edge}
theorem LM {T E:TypeId}[t:TyA P T 2 E 1][tE:Ty P E false 1](j:Nat){x ix:Operand}{a b r:Nat}(h:AL P N ops Q s rest ((d,ptr r)::e) m)(hj:j<2:=by decide)(hr:[ptr a,ptr b][j]?=some (ptr r):=by exact rfl)(hx:Av.ev e x=some (.agg 2 [ptr a,ptr b]):=by exact rfl)(hi:Av.ev e ix=some (int (j:Int)):=by exact rfl)(hd:Nat.blt d N=true:=by exact rfl):AL P N ops Q s (⟨some d,.index T x ix,ty,pos,af,none⟩::rest) e m:=
 IE (k:=1) (n:=2) j h rfl hj hr (λp hp=>by
  rcases List.mem_cons.1 hp with rfl|hp
  ·rfl
  rw[List.mem_singleton.1 hp];rfl) rfl hx hi hd
theorem a0x {T E:TypeId}[t:TyA P T 2 E 1][tE:Ty P E false 1](j:Nat){x ix:Operand}{a b r:Bs}(h:AL P N ops Q s rest ((d,str r)::e) m)(hj:j<2:=by decide)(hr:[str a,str b][j]?=some (str r):=by exact rfl)(hx:Av.ev e x=some (.agg 2 [str a,str b]):=by exact rfl)(hi:Av.ev e ix=some (int (j:Int)):=by exact rfl)(hd:Nat.blt d N=true:=by exact rfl):AL P N ops Q s (⟨some d,.index T x ix,ty,pos,af,none⟩::rest) e m:=
 IE (k:=1) (n:=2) j h rfl hj hr (λp hp=>by
  rcases List.mem_cons.1 hp with rfl|hp
  ·rfl
  rw[List.mem_singleton.1 hp];rfl) rfl hx hi hd
end
def kX (nm:Bs)(h:Hdr):TxX:={ X0 with k:=3,i:=[107],y:=x8 nm,e:=1000000,h:=h }
def U9 (c:ChX):Hdr:=c.hs.getD 0 ⟨[],0,0,G8⟩
theorem Xm {y:Bs}{h:Hdr}:Imp (.agg 100 [int 3,str [107],str [],str [],str [],str y,int 1000000,R4 h,hA G8,.agg 12 [int 0,str [],str [],.agg 7 [str [],.agg 4 [.lit (.int .u64 0),.lit (.int .u64 0),.lit (.int .u64 0),.lit (.int .u64 0)],str [],str []],int 0,int 0],str [],int 0,.agg 3 [int 0,int 0,K5],.agg 9 [int 0,K5,K5,.agg 3 [int 0,int 0,K5],.agg 3 [int 0,int 0,K5]]]) (D8 { X0 with k:=3,i:=[107],y:=y,e:=1000000,h:=h }):=by
 show Imp _ (.agg 100 [int 3,str [107],str [],str [],str [],str y,int 1000000,R4 h,hA G8,.agg 12 [int 0,str [],str [],.agg 7 [str [],G6 wZ,str [],str []],int 0,int 0],str [],int 0,.agg 3 [int 0,int 0,.sl 32 [] none],.agg 9 [int 0,.sl 2 [] none,.sl 2 [] none,.agg 3 [int 0,int 0,.sl 32 [] none],.agg 3 [int 0,int 0,.sl 32 [] none]]]);rw[Fx];exact ImpR.imp
theorem Aq {a b:Nat}:Imp (xA a b) (.agg 2 [ptr a,ptr b]):=Imp.ofC (λok w cs h=>by
 rw[RC] at h;obtain⟨h1,h2⟩:=h;rw[RCs] at h2;obtain⟨c1,c2,rfl,h3,h4⟩:=h2;rw[RCs] at h4;subst h4;rw[List.append_nil];exact h3)
structure CltOk (no:Bs)(z o z':SpX):Prop where
 a:SpC z
 b:SpC o
 w:TxW (kX no (U9 o.c))
 c1:(K7 z (j6 (kX no (U9 o.c)))).c.dd=false->ChOk z.x z.s (K7 z (j6 (kX no (U9 o.c)))).c
 e:S9 z (j6 (kX no (U9 o.c)))=(z',true)
attribute [local irreducible] H9 j6 R6 A9 eU O7 x8
section
variable {na nb:Bs} {qa qb:SpI} {a b a1 b1:SpX} {gx ga gb:Nat}
def De (a a1:SpX):Nat->SpX|0=>a|_=>a1
def Dc (b b1:SpX):Nat->SpX|0=>b|1=>b|_=>b1
set_option maxRecDepth 100000 in
theorem a8d (hna:na.length<=32)(hnb:nb.length<=32)(ha:qa.g=ga)(hb:qb.g=gb)(h1:CltOk nb a b a1)(h2:CltOk na b a1 b1) :
  Av.Spec prog GL 33 [ptr gx] (C8 gx ga gb na nb qa qb a b) λu m=>∃ q q':SpI,q.g=ga/\q'.g=gb/\u=d9 true/\m=C8 gx ga gb na nb q q' a1 b1:=by
 refine zc func33 ntmps33 λ_ hs=>?_;repeat' first|refine O ?_|intro
 refine sP 13 (v':=.agg 2 [ptr ga,ptr gb]) Aq ?_;refine H7 (α:=Nat × SpI × SpI) (λz=>[(0,ptr gx),(3,d9 true),(13,.agg 2 [ptr ga,ptr gb]),(14,int z.1)]) (λz=>C8 gx ga gb na nb z.2.1 z.2.2 (De a a1 z.1) (Dc b b1 z.1))
  (λz=>z.1<=2/\z.2.1.g=ga/\z.2.2.g=gb) (λz=>2-z.1) (0,qa,qb) za slr ⟨Nat.zero_le _,ha,hb⟩ ?_
 rintro⟨i,q,q'⟩ ⟨hi,rfl,rfl⟩;dsimp only at hi ⊢;obtain rfl|rfl|rfl:i=2\/i=0\/i=1:=by omega
 ·repeat' first|refine O ?_|intro
  exact j4 _ ⟨q,q',rfl,rfl,rfl,rfl⟩ slr
 ·have hq:=h1.b.g.q;have hn1:(1:Int)<=1/\(1:Int)<=b.c.hs.length:=⟨dc,by have:=(OP h1.b.g).2;omega⟩;have hw:=h1.w;have hc:=h1.c1;have he:=h1.e;have hwl:=h1.a.w;have hrr:=h1.a.r;dsimp only[De,Dc];rw[show ((0:Nat):Int)=0 from rfl];repeat' first|refine O ?_|intro
  refine LM 0 ?_;repeat' first|refine O ?_|intro
  rw[if_pos hn1,show b.c.hs.getD ((1:Int)-1).toNat ⟨[],0,0,G8⟩=U9 b.c from rfl];repeat' first|refine O ?_|intro
  rename_i gH gM;apply zd [14];exact zg
  ·intro _ _;refine D5 ?_;refine bV ?_;exact j5 (A7 rfl rfl)
  repeat' first|refine O ?_|intro
  rw[show ([107,101,121,32]:Bs)++nb=x8 nb from by unfold x8;rfl];apply aH [3,4,5,6,7,8,9,10,11,12,13];exact rfl;exact rfl;exact rfl;kernel_rfl;intro sQ hQ;refine D5 ?_;refine eH 46 (v':=D8 (kX nb (U9 b.c))) Xm ?_;refine T9 (GJ (nm:=na) (q:=q) (z:=a) (x:=kX nb (U9 b.c)) hw om hc om) (λu m1 hu=>?_);obtain⟨v,r,rfl,rfl⟩:=hu;rw[he];refine j5 (W9 (D6 na { q with v:=v,r:=r } a1) [] rfl rfl lpr rfl ?_);refine DJ (.var gM 91 (hA (O7 b.c.ky (U9 b.c)))::.var gH 93 (R4 (U9 b.c))::C8 gx q.g q'.g na nb { q with v:=v,r:=r } q' a1 b) ?_ kr;repeat' first|refine O ?_|intro
  exact y7 (1,{ q with v:=v,r:=r },q') za zb ⟨by show (1:Nat)<=2;decide,rfl,rfl⟩ (by show (2-1:Nat)<2-0;decide)
 have hq:=h2.b.g.q;have hn1:(1:Int)<=1/\(1:Int)<=a1.c.hs.length:=⟨dc,by have:=(OP h2.b.g).2;omega⟩;have hw:=h2.w;have hc:=h2.c1;have he:=h2.e;have hwl:=h2.a.w;have hrr:=h2.a.r;dsimp only[De,Dc];rw[show ((1:Nat):Int)=1 from rfl];repeat' first|refine O ?_|intro
 refine LM 1 ?_;repeat' first|refine O ?_|intro
 rw[if_pos hn1,show a1.c.hs.getD ((1:Int)-1).toNat ⟨[],0,0,G8⟩=U9 a1.c from rfl];repeat' first|refine O ?_|intro
 rename_i gH gM;rw[show ([107,101,121,32]:Bs)++na=x8 na from by unfold x8;rfl];apply aH [14,15,16,17,18,19,20,21,22,23,24];exact rfl;exact rfl;exact rfl;kernel_rfl;intro sQ hQ;refine D5 ?_;refine eH 46 (v':=D8 (kX na (U9 a1.c))) Xm ?_;refine T9 (GJ (nm:=nb) (q:=q') (z:=b) (x:=kX na (U9 a1.c)) hw om hc om) (λu m1 hu=>?_);obtain⟨v,r,rfl,rfl⟩:=hu;rw[he];refine j5 (W9 (D6 nb { q' with v:=v,r:=r } b1) [] rfl rfl lpr rfl ?_);refine DJ (.var gM 91 (hA (O7 a1.c.ky (U9 a1.c)))::.var gH 93 (R4 (U9 a1.c))::C8 gx q.g q'.g na nb q { q' with v:=v,r:=r } a1 b1) ?_ kr;repeat' first|refine O ?_|intro
 exact y7 (2,q,{ q' with v:=v,r:=r }) za zb ⟨by show (2:Nat)<=2;decide,rfl,rfl⟩ (by show (2-2:Nat)<2-1;decide)
end
end

structure NewOk (n:Int)(a0 b0 a1 b1 a2 b2 a3 b3 a4 b4 a5 b5:SpX):Prop where
 cA:O4 (mR (dN n) [97] [] []) 0=(a0,true)
 cB:O4 (mR (dN n) [98] [] []) 0=(b0,true)
 k1:CltOk [98] a0 b0 a1
 k2:CltOk [97] b0 a1 b1
 h1:HandOk a1 b1 a2 (dD 5 0 P6) kK
 h2:HandOk b1 a2 b2 (dD 6 0 P6) kK
 h3:HandOk a2 b2 a3 (dD 7 0 P6) kK
 h4:HandOk b2 a3 b3 (dD 8 0 P6) kK
 h5:HandOk a3 b3 a4 (dE 9 0 P6) kH
 h6:HandOk b3 a4 b4 (dE 10 0 P6) kH
 h7:HandOk a4 b4 a5 (dE 11 0 P6) kH
 h8:HandOk b4 a5 b5 (dE 12 0 P6) kH
abbrev xO (a b:Option Addr):AV:=.agg 2 [.agg 2 [.lit (.pointer a),.lit (.pointer b)]]
abbrev mM (g:Nat):Option Addr:=some ⟨g,0,none⟩
def SN:Nat->SpI->SpI->AV
 | 0,_,_=>xO none none
 | 1,q,_=>xO (mM q.g) none
 | _,q,q'=>xO (mM q.g) (mM q'.g)
def SQ (a b:SpX):Nat->SpI->SpI->List Av.Piece
 | 0,_,_=>[]
 | 1,q,_=>D6 [97] q a
 | _,q,q'=>D6 [97] q a++D6 [98] q' b
theorem Ri {nm:Bs}{gd:Nat}:ImpC (.agg 5 [str nm,ptr gd,.lit (.pointer none),d9 false,.lit (.slice none 0 0)]) (AF nm gd (.lit (.pointer none)) false [] (.slice none 0 0)):=(inferInstance:ImpT _ (.agg 5 [str nm,ptr gd,.lit (.pointer none),d9 false,.sl 3 [] (some (.slice none 0 0))])).imp
theorem Nz {n:Int}{nm:Bs}(h3:3<=n)(h4:n<=4096):ChOk (mR (dN n) nm [] []).x (mR (dN n) nm [] []).s (mR (dN n) nm [] []).c:=Di bD (XG h3 h4) dc MG
section
variable {P:Program} {N:Nat} {ops:Array Oper} {Q:Exit->Act->World->Prop} {rest:List Oper} {s:Av.Base} {e:Av.Env} {m:List Av.Piece}
theorem a0R (m':List Av.Piece)(h:AL P N ops Q s rest e m')(hm:m'=m):AL P N ops Q s rest e m:=hm ▸ h
end
theorem pmN {α:Type _}(t x s:α)(D:List α):((s::t::D)++[x]).Perm (t::x::(D++[s])):=by
 have h1:(D++[x]).Perm (x::D):=List.perm_append_comm (l₁:=D) (l₂:=[x]);have h2:(D++[s]).Perm (s::D):=List.perm_append_comm (l₁:=D) (l₂:=[s]);exact((h1.cons t).cons s).trans ((List.Perm.swap t s (x::D)).trans (((List.Perm.swap x s D).cons t).trans ((h2.symm.cons x).cons t)))
theorem a4G {α:Type _}(t x s:α)(S D:List α):((s::t::D)++(x::S)).Perm (t::x::(S++D++[s])):=by
 have h1:(D++x::S).Perm (x::(D++S)):=List.perm_middle;have h2:(S++D++[s]).Perm (s::(D++S)):=(List.perm_append_comm (l₁:=S++D) (l₂:=[s])).trans (List.Perm.cons s (List.perm_append_comm (l₁:=S) (l₂:=D)));exact((h1.cons t).cons s).trans ((List.Perm.swap t s (x::(D++S))).trans (((List.Perm.swap x s (D++S)).cons t).trans ((h2.symm.cons x).cons t)))
section
variable {n:Int} {a0 b0 a1 b1 a2 b2 a3 b3 a4 b4 a5 b5:SpX}
set_option maxRecDepth 100000 in
theorem EK (hn:400<=n/\n<=4096)(ok:NewOk n a0 b0 a1 b1 a2 b2 a3 b3 a4 b4 a5 b5) :
  Av.Spec prog GL 10 [int n] [] λu m=>∃ (gx:Nat) (q q':SpI),u=ptr gx/\m=C8 gx q.g q'.g [97] [98] q q' a5 b5:=by
 have hRo:=XG (n:=n) om hn.2;refine zc func10 ntmps10 λ_ hs=>?_;repeat' first|refine O ?_|intro
 rename_i gx;refine H7 (α:=Nat × SpI × SpI) (λz=>[(0,int n),(3,ptr gx),(14,.agg 2 [str [97],str [98]]),(15,int z.1)]) (λz=>.var gx 75 (SN z.1 z.2.1 z.2.2)::SQ a0 b0 z.1 z.2.1 z.2.2)
  (λz=>z.1<=2) (λz=>2-z.1) (0,⟨0,0,0,0,0,(undef,undef,undef,undef,undef),undef⟩,⟨0,0,0,0,0,(undef,undef,undef,undef,undef),undef⟩) za slr (Nat.zero_le _) ?_
 rintro⟨i,q,q'⟩ hi;dsimp only at hi ⊢;obtain rfl|rfl|rfl:i=2\/i=0\/i=1:=by omega
 ·dsimp only[SN,SQ];repeat' first|refine O ?_|intro
  refine T9 (a8d (na:=[97]) (nb:=[98]) (qa:=q) (qb:=q') (gx:=gx) dc dc rfl rfl ok.k1 ok.k2) (λu m1 hu=>?_);obtain⟨p,p',e1,e2,rfl,rfl⟩:=hu;rw[<- e1,<- e2];repeat' first|refine O ?_|intro
  refine T9 (a8c (na:=[97]) (nb:=[98]) (qa:=p) (qb:=p') (gx:=gx) ok.h1 ok.h2 ok.h3 ok.h4 ok.h5 ok.h6 ok.h7 ok.h8) (λu m1 hu=>?_);obtain⟨r,r',e3,e4,rfl,rfl⟩:=hu;rw[<- e3,<- e4];repeat' first|refine O ?_|intro
  exact j4 _ ⟨gx,r,r',rfl,rfl⟩ slr
 ·dsimp only[SN,SQ];rw[show ((0:Nat):Int)=0 from rfl];repeat' first|refine O ?_|intro
  refine a0x 0 ?_;repeat' (first|refine iP ?_|refine M8 ?_|refine Q4 ?_|refine L8 ?_|intro _)
  refine BX [0,1,2,3,7,8,4,5,6,9,10] kr rfl hs kr ?_;repeat' first|refine O ?_|intro
  apply NT [] [];exact rfl;exact rfl;kernel_rfl;kernel_rfl;kernel_rfl;exact trivial;intro _ _;refine T9 (Tp (n:=n) om hn.2) (λu m1 hu=>?_);obtain⟨I,rfl,rfl⟩:=hu;refine j5 (W9 [] (I6 I (dN n)) rfl rfl lpr rfl ?_);repeat' first|refine O ?_|intro
  rename_i gS;refine a0R (.var gx 75 (xO (mM gS) none)::(I6 I (dN n)++[.var gS 78 (.agg 5 [str [97],ptr I.gd,.lit (.pointer none),d9 false,.lit (.slice none 0 0)])])) ?_ kr;refine Ew (g:=gS) Ri ?_;refine lC (λok w h=>h.full 115 3 none 0) ?_;refine qQ ((.var gS 78 (AF [97] I.gd (.lit (.pointer none)) false [] (.slice none 0 0))::.tail 115 3 (.slice none 0 0)::I6 I (dN n))++[.var gx 75 (xO (mM gS) none)]) _ ?_ (pmN _ _ _ _) slr;refine aI [] (.var gS 78 (AF [97] I.gd (.lit (.pointer none)) false [] (.slice none 0 0))::.tail 115 3 (.slice none 0 0)::I6 I (dN n)) [.var gx 75 (xO (mM gS) none)] (Bi (nm:=[97]) (g:=gS) (am:=false) (rp:=[]) (r:=.slice none 0 0) (I:=I) (pc:=.pointer none) dc hRo) (λu m1 hu=>?_);obtain⟨gs,gc,v,rfl,rfl⟩:=hu;repeat' first|refine O ?_|intro
  refine aI [] (D6 [97] ⟨gS,I.gd,I.gm,gs,gc,v,.slice none 0 0⟩ (mR (dN n) [97] [] [])) [.var gx 75 (xO (mM gS) none)] (KN (nm:=[97]) (q:=⟨gS,I.gd,I.gm,gs,gc,v,.slice none 0 0⟩) (z:=mR (dN n) [97] [] []) (t:=0) (λ_=>Nz om hn.2) (Nat.zero_le _)) (λu m1 hu=>?_);obtain⟨v',r',rfl,rfl⟩:=hu;rw[ok.cA];repeat' first|refine O ?_|intro
  refine bG (.var gx 75 (xO (mM gS) none)::D6 [97] ⟨gS,I.gd,I.gm,gs,gc,v',r'⟩ a0) _ ?_ (List.perm_append_comm (l₁:=[_])) slr;exact y7 (1,⟨gS,I.gd,I.gm,gs,gc,v',r'⟩,q') za slr (by show (1:Nat)<=2;decide) (by show (2-1:Nat)<2-0;decide)
 dsimp only[SN,SQ];rw[show ((1:Nat):Int)=1 from rfl];repeat' first|refine O ?_|intro
 refine a0x 1 ?_;repeat' (first|refine iP ?_|refine M8 ?_|refine Q4 ?_|refine L8 ?_|intro _)
 refine BX [0,1,2,3,7,8,4,5,6,9,10] kr rfl hs kr ?_;repeat' first|refine O ?_|intro
 apply NT [] [];exact rfl;exact rfl;kernel_rfl;kernel_rfl;kernel_rfl;exact trivial;intro _ _;refine T9 (Tp (n:=n) om hn.2) (λu m1 hu=>?_);obtain⟨I,rfl,rfl⟩:=hu;refine j5 (W9 [] (I6 I (dN n)) rfl rfl lpr rfl ?_);repeat' first|refine O ?_|intro
 rename_i gS;refine a0R (.var gx 75 (xO (mM q.g) (mM gS))::(D6 [97] q a0++I6 I (dN n)++[.var gS 78 (.agg 5 [str [98],ptr I.gd,.lit (.pointer none),d9 false,.lit (.slice none 0 0)])])) ?_ kr;refine Ew (g:=gS) Ri ?_;refine lC (λok w h=>h.full 115 3 none 0) ?_;refine qQ ((.var gS 78 (AF [98] I.gd (.lit (.pointer none)) false [] (.slice none 0 0))::.tail 115 3 (.slice none 0 0)::I6 I (dN n))++(.var gx 75 (xO (mM q.g) (mM gS))::D6 [97] q a0)) _ ?_ (a4G _ _ _ _ _) slr;refine aI [] (.var gS 78 (AF [98] I.gd (.lit (.pointer none)) false [] (.slice none 0 0))::.tail 115 3 (.slice none 0 0)::I6 I (dN n)) (.var gx 75 (xO (mM q.g) (mM gS))::D6 [97] q a0) (Bi (nm:=[98]) (g:=gS) (am:=false) (rp:=[]) (r:=.slice none 0 0) (I:=I) (pc:=.pointer none) dc hRo) (λu m1 hu=>?_);obtain⟨gs,gc,v,rfl,rfl⟩:=hu;repeat' first|refine O ?_|intro
 refine aI [] (D6 [98] ⟨gS,I.gd,I.gm,gs,gc,v,.slice none 0 0⟩ (mR (dN n) [98] [] [])) (.var gx 75 (xO (mM q.g) (mM gS))::D6 [97] q a0) (KN (nm:=[98]) (q:=⟨gS,I.gd,I.gm,gs,gc,v,.slice none 0 0⟩) (z:=mR (dN n) [98] [] []) (t:=0) (λ_=>Nz om hn.2) (Nat.zero_le _)) (λu m1 hu=>?_);obtain⟨v',r',rfl,rfl⟩:=hu;rw[ok.cB];repeat' first|refine O ?_|intro
 refine bG (.var gx 75 (xO (mM q.g) (mM gS))::(D6 [97] q a0++D6 [98] ⟨gS,I.gd,I.gm,gs,gc,v',r'⟩ b0)) _ ?_ (List.Perm.trans (List.Perm.cons _ List.perm_append_comm) List.perm_middle.symm) slr;exact y7 (2,q,⟨gS,I.gd,I.gm,gs,gc,v',r'⟩) za slr (by show (2:Nat)<=2;decide) (by show (2-2:Nat)<2-1;decide)
end
end Go.Proofs.Z

namespace Go.Proofs.Z
open Go Go.RowKit Tw Av
structure SpL (nm:Bs)(z:SpX)(bs:List BlkX)(ws:List Bs):Prop where
 ro:Ro z.x bs
 s:z.s=J3 bs
 c:z.c=F5 nm (x8 nm) w9 bs ws false
 ar:z.x.ar=false
 am:z.am=false
 n:400<=z.x.n
 lg:(iZ bs).length<=1048*bs.length
 rp:z.rp.length<=bs.length
 t:X4 bs=0
 w:ws.length<=1/\∀ s∈ws,s.length<=1000
def Dm (nm:Bs)(bs:List BlkX):List Ent:=j3 (opC nm (x8 nm) w9 bs)
section
variable {nm:Bs} {z:SpX} {bs:List BlkX} {ws:List Bs} {d:List Ent} {h t:Int} {x:TxX}
theorem VV (hw:ws.length<=1/\∀ s∈ws,s.length<=1000):WsG ws:=⟨om,λs hs=>⟨by have:=hw.2 s hs;omega,λ_=>trivial⟩⟩
theorem SpL.st (h:SpL nm z bs ws):j3 z.c=Dm nm bs:=by rw[h.c];rfl
theorem SpL.cut (h:SpL nm z bs ws)(hb:bs.length<=22):∃ z',O4 z 0=(z',true)/\SpL nm z' (bs++[J7 bs ws 0]) []/\z'.rp=z.rp++(M4 (Dm nm bs) (J7 bs ws 0)).2.1/\z'.x.n=z.x.n:=by
 have hw:=VV h.w;have hw1:=h.w.1;have hn:=h.n;have hlg:=h.lg;have hrp:=h.rp;have hrm:Y6 z.x.n=(z.x.n-2)*64:=rfl;have hc:=UK (nm:=nm) (ky:=x8 nm) bD h.ro om hw 0;obtain⟨hyn,hya,hR,e1,e2,e3,e4⟩:=Wq hc h.ar om h.w.2;have hx:=ZT (bs:=bs) (t:=0) h.w.2;have hr:(M4 (j3 (opC nm (x8 nm) w9 bs)) (J7 bs ws 0)).2.1.length=ws.length:=(yR.1).trans (Nat.zero_add _);refine⟨{ z with x:=(R5 z.x (J3 bs) (F5 nm (x8 nm) w9 bs ws false) 0).1,s:=(R5 z.x (J3 bs) (F5 nm (x8 nm) w9 bs ws false) 0).2.1,c:=wO z.x (J3 bs) (F5 nm (x8 nm) w9 bs ws false) 0,rp:=z.rp++fG z.x (J3 bs) (F5 nm (x8 nm) w9 bs ws false) 0 },?_,⟨hR,e1,e2,hya,h.am,by dsimp only;rw[hyn];exact hn,?_,?_,?_,Nat.zero_le _,sm⟩,?_,hyn⟩
 ·unfold O4;rw[if_neg (by rw[h.c];show ¬ (false=true);decide),h.s,h.c,e3];rfl
 ·rw[lla,List.length_singleton];omega
 ·show (z.rp++fG z.x (J3 bs) (F5 nm (x8 nm) w9 bs ws false) 0).length<=_;rw[e4,lla,lla,List.length_singleton,hr];omega
 ·rw[WH];show max (min 0 1099511627776) (X4 bs)=0;rw[h.t];rfl
 show z.rp++fG z.x (J3 bs) (F5 nm (x8 nm) w9 bs ws false) 0=_;rw[e4];rfl
theorem SpL.sub (h:SpL nm z bs []){s:Bs}(hl:s.length<=1000):R6 z.c s=0/\SpL nm (K7 z s) bs [s]:=by
 have e:R6 z.c s=0:=by
  unfold R6;rw[h.c,if_neg (show ¬ (F5 nm (x8 nm) w9 bs [] false).dd=true from by show ¬ (false=true);decide),if_neg om,if_neg (show ¬ 16<=(F5 nm (x8 nm) w9 bs [] false).ws.length from by show ¬ 16<=([]:List Bs).length;decide)]
 refine⟨e,⟨h.ro,h.s,?_,h.ar,h.am,h.n,h.lg,h.rp,h.t,Nat.le_refl _,λq hq=>by rw[List.mem_singleton.1 hq];exact hl⟩⟩;show pY z.c s=_;unfold pY;rw[if_pos e,h.c];rfl
theorem SpL.does (h:SpL nm z bs []){s:Bs}(hl:s.length<=1000)(hb:bs.length<=22):∃ z',S9 z s=(z',true)/\SpL nm z' (bs++[J7 bs [s] 0]) []/\z'.x.n=z.x.n:=by
 obtain⟨e,h1⟩:=h.sub hl;obtain⟨z',h2,h3,_,h5⟩:=h1.cut hb;exact⟨z',by unfold S9;rw[if_pos e];exact h2,h3,h5⟩
theorem SpL.ok (h:SpL nm z bs ws)(hb:bs.length<=100):ChOk z.x z.s z.c:=by
 rw[h.s,h.c];exact Di bD h.ro om (VV h.w)
theorem SpL.cg (h:SpL nm z bs ws)(hn:nm.length<=32)(h1:1<=bs.length):CG z.c:=by
 have hk:=TL hn;rw[h.c];exact Xu bD h.ro.bg h1 om
theorem SpL.sc (h:SpL nm z bs ws)(hn:nm.length<=32)(h1:1<=bs.length)(hb:bs.length<=100):SpC z:=by
 have hw:=h.w.1;have hr:=h.rp;have h3:=h.n;refine⟨h.cg hn h1,by rw[h.c];show ws.length<=16;omega,λ_=>h.ok hb,om,h.ro.dv,by rw[h.ro.ws];simp,by rw[h.ro.ws];decide,om⟩
theorem EM (hb:BsG bs)(b:BlkX):Dm nm (bs++[b])=(M4 (Dm nm bs) b).1:=by
 have o:=uS (nm:=nm) (ky:=x8 nm) bD hb;have o1:=o.ms;have o2:=o.hs;show j3 (opC nm (x8 nm) w9 (bs++[b]))=(M4 (j3 (opC nm (x8 nm) w9 bs)) b).1;rw[FR];show ((opC nm (x8 nm) w9 bs).ms++[(M4 (j3 (opC nm (x8 nm) w9 bs)) b).1]).getD ((opC nm (x8 nm) w9 bs).hs++[OQ (opC nm (x8 nm) w9 bs) b]).length []=_;rw[lla,List.length_singleton,List.getD_eq_getElem?_getD,List.getElem?_append_right om,show (opC nm (x8 nm) w9 bs).hs.length+1-(opC nm (x8 nm) w9 bs).ms.length=0 by omega];rfl
theorem GM (b:BlkX):(opC nm (x8 nm) w9 (bs++[b])).ev=(opC nm (x8 nm) w9 bs).ev++(M4 (Dm nm bs) b).2.2:=by
 rw[FR];rfl
theorem wN (hb:BsG bs):DOk (Dm nm bs):=(uS (nm:=nm) (ky:=x8 nm) bD hb).st
theorem FE (hg:TxG x)(hl:(j6 x).length<=1000):M4 d ⟨h,t,[j6 x]⟩=((u7 d x h t).1,[(u7 d x h t).2],if (u7 d x h t).2.e=0/\13<=x.k then [jF (u7 d x h t).1 h x (u7 d x h t).2] else []):=by
 obtain⟨a1,a2⟩:=XB hg om;generalize j6 x=B at a1 a2 ⊢;show bP h t (d,[],[]) B=_;unfold bP;rw[if_pos a2,a1];rfl
theorem Ji:M4 d ⟨h,t,[]⟩=(d,[],[]):=rfl
theorem EX:(j6 x).length<=260+x.i.length+x.o.length+x.p.length+x.q.length+x.y.length+x.h.c.length+x.x.s.length+x.x.k.length+x.x.d.length+x.x.f.length+x.x.g.length+x.a.length+(R7 x.f).length+(dY x.g).length:=by
 have a1:=mP 75 x.k;have a2:=aZ 73 x.i;have a3:=aZ 79 x.o;have a4:=aZ 81 x.p;have a5:=aZ 82 x.q;have a6:=aZ 89 x.y;have a7:=mP 69 x.e;have a8:=aZ 99 x.h.c;have a9:=mP 104 x.h.h;have b1:=mP 116 x.h.t;have b2:=aZ 114 x.h.r.l;have b3:=aZ 77 x.m.l;have b4:=mP 113 x.x.q;have b5:=aZ 115 x.x.s;have b6:=aZ 107 x.x.k;have b7:=aZ 100 x.x.d;have b8:=aZ 97 (bF x.x.a.n);have b9:=aZ 102 x.x.f;have c1:=aZ 103 x.x.g;have c2:=mP 117 x.x.h;have c3:=mP 118 x.x.t;have c4:=aZ 65 x.a;have c5:=mP 84 x.t;have c6:=aZ 70 (R7 x.f);have c7:=aZ 71 (dY x.g);have d1:=x.h.r.len;have d2:=x.m.len;have d3:=yG x.x.a.n;unfold j6;simp only[List.length_append];omega
theorem Nb {p:Prf}:(R7 p).length<=28+36*p.p.length:=by
 have a1:=mP 105 p.a;have a2:=mP 109 p.m;have a3:=aZ 112 ((p.p.map λh=>h.l).flatMap (r9 112));have a4:=UB 112 (p.p.map λh=>h.l);have a5:AB (p.p.map λh=>h.l)<=32*(p.p.map λh=>h.l).length:=MU λy hy=>by
  obtain⟨z,_,rfl⟩:=List.mem_map.1 hy;rw[z.len];exact Nat.le_refl _
 rw[llm] at a4 a5;show (y9 105 p.a++y9 109 p.m++r9 112 ((p.p.map λh=>h.l).flatMap (r9 112))).length<=_;simp only[List.length_append] at *;omega
theorem a4y {l:List Ent}{k:Bs}(hs:Srt l)(hl:l.length<=10):PG (O9 l k)/\(R7 (O9 l k)).length<=388:=by
 have h1:=PH l k hs;have h2:PG (O9 l k):=a6a hl h1;have h3:=(ZP (d:=l) (i:=G5 l k) (b:=K8 l k)).1;have h4:=Nb (p:=O9 l k);have h5:(O9 l k).p.length<=l.length:=h3;exact⟨h2,om⟩
theorem pF:(dY lD).length<=100:=nlb kr
theorem YF:(R7 P6).length<=50:=nlb kr
end
end Go.Proofs.Z
