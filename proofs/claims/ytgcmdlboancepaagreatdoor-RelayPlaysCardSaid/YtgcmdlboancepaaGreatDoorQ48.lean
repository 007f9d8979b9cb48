/- . -/
import Derived.Test.YtgcmdlboancepaaGreatDoorQ47
namespace Go.Proofs.Z
open Go Go.RowKit Tw Av Go.Proofs.Tryz
attribute [local irreducible] F8 V4 A9 dQ gM oO bG cK kR lV y8 lZ
set_option maxRecDepth 100000 in
set_option maxHeartbeats 8000000 in
theorem a5B {l:List (Int × Int × Int)}{xs:List AV}{id:Option Value}(hxs:xs=l.map EL):Ans prog GL 3 [.sl 3 xs id] True (d9 true):=⟨λ_=>by
 subst hxs;have hm:(l.map EL).length=l.length:=llm _;refine ze func3 ntmps3 λ_ hs=>?_;refine wF 0 (λhbnd=>?_);rw[hm] at hbnd;have hbnd:=nP hbnd;repeat' first|refine Z ?_|intro
 refine H6 (args:=[]) [] _ (by rw[hs];exact YC (.inl rfl)) (λu m1 hh=>?_) lpr;obtain⟨a,b,hA,hB,rfl,rfl⟩:=hh;rw[List.append_nil];repeat' first|refine Z ?_|intro
 rename_i gP;have hA0:SI 2 ⟨a.q,a.y,aX,[]⟩:=⟨hA.ar,hA.ro,⟨Nat.zero_le _,λ_ h=>by cases h⟩,by show 1<=aX.length/\aX.length<=2;decide⟩;have hB0:SI 2 ⟨b.q,b.y,jX,[]⟩:=⟨hB.ar,hB.ro,⟨Nat.zero_le _,λ_ h=>by cases h⟩,by show 1<=jX.length/\jX.length<=2;decide⟩;refine y9 (α:=PlZ) (λz=>[(0,.sl 3 (l.map EL) id),(3,d9 true),(4,ptr gP),(6,int z.i)]) (λz=>.var gP 29 (iD z)::zM z)
  (λz=>(z.i<=20/\z.i<=l.length)/\SI (2+z.i) z.a/\SI (2+z.i) z.b) (λz=>20-z.i) ⟨0,⟨a.q,a.y,aX,[]⟩,⟨b.q,b.y,jX,[]⟩⟩ zc slr ⟨⟨Nat.zero_le _,Nat.zero_le _⟩,hA0,hB0⟩ ?_
 clear hA hB hA0 hB0;rintro⟨i,a,b⟩ ⟨⟨hi,hil⟩,hIa,hIb⟩;dsimp only at hi hil hIa hIb ⊢;by_cases hgo:i<l.length/\i<20
 rotate_left
 ·have hor:¬ i<l.length\/(i<l.length/\¬ i<20):=om
  rcases hor with hk1|⟨hk1,hk2⟩
  ·exact j4
  exact j4
 obtain⟨h1,h2⟩:=hgo;obtain⟨⟨sd,kd,n⟩,hs3⟩:∃ s,l[i]=s:=⟨_,rfl⟩;repeat' first|refine Z ?_|intro
 rw[hs3];apply U2 [1,2,3,4,5,6,7,8,9,10,11,12,13,14,15,16,17,18,19,20,21,22,23,24,25,26,27,28,29,30,31,32,33,34,35,36]
 ·exact rfl
 ·exact rfl
 ·exact rfl
 ·kernel_rfl
 intro sQ hQ;obtain hsd|hsd:sd%2=0\/sd%2=1:=by omega
 ·refine R7 (QF (nz:=[97]) (no:=[98]) (z:=a) (o:=b) (N:=2+i) (i:=0) (sd:=sd) (kd:=kd) (n:=n) (c0:=E8 a.q.gc) (c1:=E8 b.q.gc) (r0:=E8 a.q.gr) (r1:=E8 b.q.gr) hIa hIb om (.inl ⟨rfl,rfl,rfl,rfl,rfl⟩) hsd) (λu m1 hu=>?_);obtain⟨a',hst,⟨v',w',hq⟩,rfl,rfl⟩:=hu;refine j3 (N7 (K9 [97] a'++K9 [98] b) [] rfl rfl lpr rfl ?_);refine oQ (.var gP 29 (iD ⟨i,a,b⟩)::zM ⟨i,a',b⟩) ?_ kr;repeat' first|refine Z ?_|intro
  exact o9 ⟨i+1,a',b⟩ zc (by
   rw[show iD ⟨i+1,a',b⟩=iD ⟨i,a,b⟩ from by show vH a'.q b.q=_;rw[hq]];exact List.Sublist.refl _) ⟨⟨h2,h1⟩,hst.si hIa hIb,hIb.mono⟩ (by dsimp only;omega)
 refine H6 (K9 [98] b++K9 [97] a) [] (by rw[hQ];exact QF (nz:=[98]) (no:=[97]) (z:=b) (o:=a) (N:=2+i) (i:=1) (sd:=sd) (kd:=kd) (n:=n) (c0:=E8 a.q.gc) (c1:=E8 b.q.gc) (r0:=E8 a.q.gr) (r1:=E8 b.q.gr) hIb hIa om (.inr ⟨rfl,rfl,rfl,rfl,rfl⟩) hsd) (λu m1 hu=>?_) (by
  rw[List.append_nil];exact List.perm_append_comm (l₁:=K9 [97] a) (l₂:=K9 [98] b))
 obtain⟨b',hst,⟨v',w',hq⟩,rfl,rfl⟩:=hu;refine j3 (dW (K9 [97] a++K9 [98] b') (K9 [98] b'++K9 [97] a++[]) (N7 (K9 [97] a++K9 [98] b') [] rfl rfl lpr rfl ?_) (by rw[List.append_nil];exact List.perm_append_comm) slr);refine oQ (.var gP 29 (iD ⟨i,a,b⟩)::zM ⟨i,a,b'⟩) ?_ kr;repeat' first|refine Z ?_|intro
 exact o9 ⟨i+1,a,b'⟩ zc (by
  rw[show iD ⟨i+1,a,b'⟩=iD ⟨i,a,b⟩ from by show vH a.q b'.q=_;rw[hq]];exact List.Sublist.refl _) ⟨⟨h2,h1⟩,hIa.mono,hst.si hIb hIa⟩ (by dsimp only;omega)⟩
end Go.Proofs.Z
