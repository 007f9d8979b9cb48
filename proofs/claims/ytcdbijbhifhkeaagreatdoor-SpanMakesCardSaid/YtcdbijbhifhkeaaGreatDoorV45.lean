/- . -/
import Derived.Test.YtcdbijbhifhkeaaGreatDoorV44
set_option maxHeartbeats 64000000
namespace Go.Proofs.Z
open Go Go.RowKit Tw Av Go.Proofs.Tryz
attribute [local irreducible] j6 O7 N9 M9 Z9 O4 S9 K7 Z8 F9 U2 I1 U7 M5
structure MadeS (nm:Bs)(z:SpX):Prop where
 g:CG z.c
 n:z.c.nm=nm
 p:iW z.c=0
 c:U7 (j3 z.c) [107]=true/\(U2 (j3 z.c) [107]).f=false
 k:M5 (j3 z.c) [75] [110]=true/\I1 (j3 z.c) [75] [110]=Q5 3
 h:M5 (j3 z.c) [72] [99]=true/\I1 (j3 z.c) [72] [99]=U6 3
 w:F9 (j3 z.c) iK=H9 1000
theorem SdS.made {nm no:Bs}{z:SpX}{bs:List BlkX}{l:List Sta}{s:Sta}{m:Nat}(h:SdS nm no z bs l s (some (E9 (Q5 3))) (some (E9 (U6 3))) m)(hnm:nm.length=1)(hno:no.length=1):MadeS nm z:=by
 have r:=dL 3 dc;have hst:=h.L.st;have hk:gO (j3 z.c) kK=some (E9 (Q5 3)):=by rw[hst];exact h.k
 have hh:gO (j3 z.c) kH=some (E9 (U6 3)):=by rw[hst];exact h.h
 have hc:CliG (j3 z.c) no l s:=by rw[hst];exact h.c
 refine⟨h.L.cg om h.b.1,?_,Nt ?_,⟨hc.b hno,by rw[hc.r hno];rfl⟩,wL hk r.1 r.2.1,wL hh r.2.2.2.1 r.2.2.2.2.1,?_⟩
 ·rw[h.L.c];exact(uS (nm:=nm) (ky:=x8 nm) bD h.L.ro.bg).nm
 ·rw[hst];exact h.np
 refine Wd.ext' ?_;rw[mO dc];exact yA (by rw[hst];exact h.gn.2.1) dc
theorem a6h {n:Int}(hn:400<=n/\n<=4096):∃ a0 b0 a1 b1 a2 b2 a3 b3 a4 b4 a5 b5,NewOk n a0 b0 a1 b1 a2 b2 a3 b3 a4 b4 a5 b5/\MadeS [97] a5/\MadeS [98] b5:=by
 obtain⟨a0,b0,a1,b1,a2,b2,a3,b3,a4,b4,a5,b5,hN,bA,bB,lA,lB,sA,sB,A,B,hl,hs,hlA,hlB,nA,nB⟩:=JU (n:=n) hn;exact⟨a0,b0,a1,b1,a2,b2,a3,b3,a4,b4,a5,b5,hN,A.made rfl rfl,B.made rfl rfl⟩
set_option maxRecDepth 100000 in
theorem a8B {n:Int}(hn:¬ (400<=n/\n<=4096)):Av.Spec prog GL 8 [int n] [] λu m=>u=d9 true/\m=[]:=by
 refine zc func8 ntmps8 λ_ hs=>?_;by_cases h:n<400
 ·have h2:¬ 400<=n:=om
  repeat' first|refine O ?_|intro
  rw[dZ h2];repeat' first|refine O ?_|intro
  repeat ((first|refine H6 ?_|refine D5 ?_);(repeat' (first|refine Za ?_|refine p9 (λ_=>?_)|intro _|simp only[List.set]|fail)))
  repeat ((first|refine H6 ?_|refine D5 ?_);(repeat' (first|refine Za ?_|refine p9 (λ_=>?_)|intro _|simp only[List.set]|fail)))
  refine eH 53 (v':=K9 ⟨3,0,0,0,0,[],[]⟩ none) NP ?_;repeat ((first|refine H6 ?_|refine D5 ?_);(repeat' (first|refine Za ?_|refine p9 (λ_=>?_)|intro _|simp only[List.set]|fail)))
  refine a0H trivial ?_ (hc:=Oz (k:=3) (s:=0) (n:=0) (t:=0) (c:=0) (xs:=[]) (tx:=[]) (id:=none));repeat ((first|refine H6 ?_|refine D5 ?_);(repeat' (first|refine Za ?_|refine p9 (λ_=>?_)|intro _|simp only[List.set]|fail)))
  exact o8
 have h2:400<=n:=om
 have h3:¬ n<=4096:=om
 repeat' first|refine O ?_|intro
 rw[dT h2];repeat' first|refine O ?_|intro
 repeat ((first|refine H6 ?_|refine D5 ?_);(repeat' (first|refine Za ?_|refine p9 (λ_=>?_)|intro _|simp only[List.set]|fail)))
 rw[dZ h3];repeat' first|refine O ?_|intro
 repeat ((first|refine H6 ?_|refine D5 ?_);(repeat' (first|refine Za ?_|refine p9 (λ_=>?_)|intro _|simp only[List.set]|fail)))
 repeat ((first|refine H6 ?_|refine D5 ?_);(repeat' (first|refine Za ?_|refine p9 (λ_=>?_)|intro _|simp only[List.set]|fail)))
 refine eH 53 (v':=K9 ⟨3,0,0,0,0,[],[]⟩ none) NP ?_;repeat ((first|refine H6 ?_|refine D5 ?_);(repeat' (first|refine Za ?_|refine p9 (λ_=>?_)|intro _|simp only[List.set]|fail)))
 refine a0H trivial ?_ (hc:=Oz (k:=3) (s:=0) (n:=0) (t:=0) (c:=0) (xs:=[]) (tx:=[]) (id:=none));repeat ((first|refine H6 ?_|refine D5 ?_);(repeat' (first|refine Za ?_|refine p9 (λ_=>?_)|intro _|simp only[List.set]|fail)))
 exact o8
theorem Gc:G6 (H9 1000)=.agg 4 [.lit (.int .u64 1000),.lit (.int .u64 0),.lit (.int .u64 0),.lit (.int .u64 0)]:=by kernel_rfl
set_option maxRecDepth 100000 in
theorem a8A {n:Int}(hn:400<=n/\n<=4096):Av.Spec prog GL 8 [int n] [] λu m=>u=d9 true/\m=[]:=by
 obtain⟨a0,b0,a1,b1,a2,b2,a3,b3,a4,b4,a5,b5,hN,A,B⟩:=a6h hn;refine zc func8 ntmps8 λ_ hs=>?_;repeat' first|refine O ?_|intro
 refine J5 [] _ (EK hn hN) (λu m1 hu=>?_);obtain⟨gx,q,q',rfl,rfl⟩:=hu;repeat' first|refine O ?_|intro
 rw[dT hn.1];repeat' first|refine O ?_|intro
 repeat ((first|refine H6 ?_|refine D5 ?_);(repeat' (first|refine Za ?_|refine p9 (λ_=>?_)|intro _|simp only[List.set]|fail)))
 rw[dT hn.2];repeat' first|refine O ?_|intro
 repeat ((first|refine H6 ?_|refine D5 ?_);(repeat' (first|refine Za ?_|refine p9 (λ_=>?_)|intro _|simp only[List.set]|fail)))
 refine sO (α:=Unit) (λ_=>[(3,d9 true),(4,ptr gx)]) (λ_=>C8 gx q.g q'.g [97] [98] q q' a5 b5) ?_ (λ_=>?_);rotate_left
 ·have e1:=A.n;have e2:=B.n;repeat' first|refine O ?_|intro
  repeat ((first|refine H6 ?_|refine D5 ?_);(repeat' (first|refine Za ?_|refine p9 (λ_=>?_)|intro _|simp only[List.set]|fail)))
  refine J5 [] _ (bU (nz:=[97]) (no:=[98]) (q:=q) (qo:=q') (z:=a5) (o:=b5) (gx:=gx) (ga:=q.g) (gb:=q'.g) (i:=0) (.inl ⟨rfl,rfl,rfl⟩)) (λu m1 hu=>?_);obtain⟨rfl,rfl⟩:=hu;repeat' first|refine O ?_|intro
  repeat ((first|refine H6 ?_|refine D5 ?_);(repeat' (first|refine Za ?_|refine p9 (λ_=>?_)|intro _|simp only[]|fail)))
  rw[e1];repeat' first|refine O ?_|intro
  repeat ((first|refine H6 ?_|refine D5 ?_);(repeat' (first|refine Za ?_|refine p9 (λ_=>?_)|intro _|simp only[List.set]|fail)))
  refine qQ (C8 gx q.g q'.g [98] [97] q' q b5 a5) _ ?_ (List.Perm.cons _ List.perm_append_comm) slr;refine J5 [] _ (bU (nz:=[98]) (no:=[97]) (q:=q') (qo:=q) (z:=b5) (o:=a5) (gx:=gx) (ga:=q.g) (gb:=q'.g) (i:=1) (.inr ⟨rfl,rfl,rfl⟩)) (λu m1 hu=>?_);obtain⟨rfl,rfl⟩:=hu;repeat' first|refine O ?_|intro
  repeat ((first|refine H6 ?_|refine D5 ?_);(repeat' (first|refine Za ?_|refine p9 (λ_=>?_)|intro _|simp only[]|fail)))
  rw[e2];repeat' first|refine O ?_|intro
  repeat ((first|refine H6 ?_|refine D5 ?_);(repeat' (first|refine Za ?_|refine p9 (λ_=>?_)|intro _|simp only[List.set]|fail)))
  exact x9 rfl
 refine H7 (α:=Nat) (λi=>[(3,d9 true),(4,ptr gx),(5,int i)]) (λ_=>C8 gx q.g q'.g [97] [98] q q' a5 b5) (λi=>i<=2) (λi=>2-i) 0 za slr (Nat.zero_le _) ?_;intro i hi;obtain rfl|rfl|rfl:i=2\/i=0\/i=1:=by omega
 ·repeat' first|refine O ?_|intro
  exact P9 () za slr
 ·rw[show ((0:Nat):Int)=0 from rfl];have hk:=A.g.k;have hd:=hk.2;have hl:=hd.l;obtain⟨c1,c2⟩:=A.c;obtain⟨k1,k2⟩:=A.k;obtain⟨h1,h2⟩:=A.h;have hw:=A.w;have hp:=A.p;have hE:DOk (j3 a5.c)/\([75]:Bs).length<=1000000000:=⟨hd,dc⟩;have hE2:DOk (j3 a5.c)/\([72]:Bs).length<=1000000000:=⟨hd,dc⟩;repeat' first|refine O ?_|intro
  refine J5 [] _ (bU (nz:=[97]) (no:=[98]) (q:=q) (qo:=q') (z:=a5) (o:=b5) (gx:=gx) (ga:=q.g) (gb:=q'.g) (i:=0) (.inl ⟨rfl,rfl,rfl⟩)) (λu m1 hu=>?_);obtain⟨rfl,rfl⟩:=hu;repeat' first|refine O ?_|intro
  rw[c1,k1,h1,k2,h2,hw,Gc];repeat' first|refine O ?_|intro
  repeat ((first|refine H6 ?_|refine D5 ?_);(repeat' (first|refine Za ?_|refine p9 (λ_=>?_)|intro _|simp only[List.set]|fail)))
  rw[c2];repeat' first|refine O ?_|intro
  repeat ((first|refine H6 ?_|refine D5 ?_);(repeat' (first|refine Za ?_|refine p9 (λ_=>?_)|intro _|simp only[List.set]|fail)))
  refine J5 [_,_,_,_] _ (zN (nz:=[97]) (no:=[98]) (q:=q) (qo:=q') (z:=a5) (o:=b5) (gx:=gx) (ga:=q.g) (gb:=q'.g) (i:=0) (.inl ⟨rfl,rfl,rfl⟩) A.g) (λu m1 hu=>?_);obtain⟨rfl,rfl⟩:=hu;rw[hp];repeat' first|refine O ?_|intro
  repeat ((first|refine H6 ?_|refine D5 ?_);(repeat' (first|refine Za ?_|refine p9 (λ_=>?_)|intro _|simp only[List.set]|fail)))
  refine J5 [_,_,_,_] _ (Sy (nz:=[97]) (no:=[98]) (q:=q) (qo:=q') (z:=a5) (o:=b5) (gx:=gx) (ga:=q.g) (gb:=q'.g) (i:=0) (.inl ⟨rfl,rfl,rfl⟩)) (λu m1 hu=>?_);obtain⟨rfl,rfl⟩:=hu;repeat' first|refine O ?_|intro
  repeat ((first|refine H6 ?_|refine D5 ?_);(repeat' (first|refine Za ?_|refine p9 (λ_=>?_)|intro _|simp only[List.set]|fail)))
  exact y7 1 za zb dc dc
 rw[show ((1:Nat):Int)=1 from rfl];have hk:=B.g.k;have hd:=hk.2;have hl:=hd.l;obtain⟨c1,c2⟩:=B.c;obtain⟨k1,k2⟩:=B.k;obtain⟨h1,h2⟩:=B.h;have hw:=B.w;have hp:=B.p;have hE:DOk (j3 b5.c)/\([75]:Bs).length<=1000000000:=⟨hd,dc⟩;have hE2:DOk (j3 b5.c)/\([72]:Bs).length<=1000000000:=⟨hd,dc⟩;repeat' first|refine O ?_|intro
 refine qQ (C8 gx q.g q'.g [98] [97] q' q b5 a5) _ ?_ (List.Perm.cons _ List.perm_append_comm) slr;refine J5 [] _ (bU (nz:=[98]) (no:=[97]) (q:=q') (qo:=q) (z:=b5) (o:=a5) (gx:=gx) (ga:=q.g) (gb:=q'.g) (i:=1) (.inr ⟨rfl,rfl,rfl⟩)) (λu m1 hu=>?_);obtain⟨rfl,rfl⟩:=hu;repeat' first|refine O ?_|intro
 rw[c1,k1,h1,k2,h2,hw,Gc];repeat' first|refine O ?_|intro
 repeat ((first|refine H6 ?_|refine D5 ?_);(repeat' (first|refine Za ?_|refine p9 (λ_=>?_)|intro _|simp only[List.set]|fail)))
 rw[c2];repeat' first|refine O ?_|intro
 repeat ((first|refine H6 ?_|refine D5 ?_);(repeat' (first|refine Za ?_|refine p9 (λ_=>?_)|intro _|simp only[List.set]|fail)))
 refine J5 [_,_,_,_] _ (zN (nz:=[98]) (no:=[97]) (q:=q') (qo:=q) (z:=b5) (o:=a5) (gx:=gx) (ga:=q.g) (gb:=q'.g) (i:=1) (.inr ⟨rfl,rfl,rfl⟩) B.g) (λu m1 hu=>?_);obtain⟨rfl,rfl⟩:=hu;rw[hp];repeat' first|refine O ?_|intro
 repeat ((first|refine H6 ?_|refine D5 ?_);(repeat' (first|refine Za ?_|refine p9 (λ_=>?_)|intro _|simp only[List.set]|fail)))
 refine J5 [_,_,_,_] _ (Sy (nz:=[98]) (no:=[97]) (q:=q') (qo:=q) (z:=b5) (o:=a5) (gx:=gx) (ga:=q.g) (gb:=q'.g) (i:=1) (.inr ⟨rfl,rfl,rfl⟩)) (λu m1 hu=>?_);obtain⟨rfl,rfl⟩:=hu;repeat' first|refine O ?_|intro
 repeat ((first|refine H6 ?_|refine D5 ?_);(repeat' (first|refine Za ?_|refine p9 (λ_=>?_)|intro _|simp only[List.set]|fail)))
 refine bG (([_,_,_,_]:List Av.Piece)++C8 gx q.g q'.g [97] [98] q q' a5 b5) _ ?_ (List.Perm.append_left _ (List.Perm.cons _ List.perm_append_comm)) slr;exact y7 2 za (List.sublist_append_right _ _) dc dc
instance a8C {n:Int}:Ans prog GL 8 [int n] True (d9 true):=⟨λ_=>by
 by_cases h:400<=n/\n<=4096
 ·exact a8A h
 exact a8B h⟩
end Go.Proofs.Z
