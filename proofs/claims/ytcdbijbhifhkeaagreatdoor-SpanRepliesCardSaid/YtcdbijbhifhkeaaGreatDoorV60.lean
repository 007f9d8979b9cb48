/- . -/
import Derived.Test.YtcdbijbhifhkeaaGreatDoorV54
import Derived.Test.YtcdbijbhifhkeaaGreatDoorV59
namespace Go.Proofs.Z
open Go Go.RowKit Tw Av Go.Proofs.Tryz
theorem a4D {n:Int}(hn:400<=n/\n<=4096):∃ a0 b0 a1 b1 a2 b2 a3 b3 a4 b4 a5 b5,NewOk n a0 b0 a1 b1 a2 b2 a3 b3 a4 b4 a5 b5/\PrG 10 a5 b5:=by
 obtain⟨a0,b0,a1,b1,a2,b2,a3,b3,a4,b4,a5,b5,hN,bA,bB,lA,lB,sA,sB,A,B,hl,hs,hlA,hlB,nA,nB⟩:=JU (n:=n) hn;exact⟨a0,b0,a1,b1,a2,b2,a3,b3,a4,b4,a5,b5,hN,⟨_,_,_,A.L.spg om⟩,⟨_,_,_,B.L.spg om⟩⟩
abbrev V9:=SpX × SpX × SpI × SpI
set_option maxRecDepth 100000 in
set_option maxHeartbeats 16000000 in
theorem a8o {l:List PlX}{xs:List AV}{id:Option Value}(hxs:xs=l.map λp=>K9 p none):Ans prog GL 6 [.sl 7 xs id] True (d9 true):=⟨λ_=>by
 subst hxs;have hml:(l.map λp=>K9 p none).length=l.length:=llm _;obtain⟨a0,b0,a1,b1,a2,b2,a3,b3,a4,b4,a5,b5,hN,hP⟩:=a4D (n:=2000) dc;refine zc func6 ntmps6 λ_ hs=>?_;repeat' first|refine O ?_|intro
 refine J5 [] _ (EK (n:=2000) dc hN) (λu m1 hu=>?_);obtain⟨gx,q,q',rfl,rfl⟩:=hu;repeat' first|refine O ?_|intro
 refine sO (α:=Unit) (λ_=>[(3,d9 true)]) (λ_=>[]) ?_ (λ_=>?_);rotate_left
 ·exact o8
 refine H7 (α:=Nat × V9) (λz=>[(0,.sl 7 (l.map λp=>K9 p none) id),(3,d9 true),(4,ptr gx),(5,int z.1)]) (λz=>C8 gx z.2.2.2.1.g z.2.2.2.2.g [97] [98] z.2.2.2.1 z.2.2.2.2 z.2.1 z.2.2.1) (λz=>z.1<=l.length/\z.1<=30/\PrG (10+z.1) z.2.1 z.2.2.1) (λz=>l.length-z.1) (0,a5,b5,q,q') za slr ⟨Nat.zero_le _,Nat.zero_le _,hP⟩ ?_;rintro⟨i,a,b,q,q'⟩ ⟨hi,hi2,hP⟩;dsimp only at hi hi2 hP ⊢;by_cases hil:i<l.length
 rotate_left
 ·repeat' first|refine O ?_|intro
  repeat ((first|refine H6 ?_|refine D5 ?_|refine U3 ?_);(repeat' (first|refine Za ?_|refine p9 (λ_=>?_)|intro _|simp only[List.set]|fail)))
  exact P9 () za (List.nil_sublist _)
 by_cases hi3:i<30
 rotate_left
 ·repeat' first|refine O ?_|intro
  repeat ((first|refine H6 ?_|refine D5 ?_|refine U3 ?_);(repeat' (first|refine Za ?_|refine p9 (λ_=>?_)|intro _|simp only[List.set]|fail)))
  exact P9 () za (List.nil_sublist _)
 repeat' first|refine O ?_|intro
 repeat ((first|refine H6 ?_|refine D5 ?_|refine U3 ?_);(repeat' (first|refine Za ?_|refine p9 (λ_=>?_)|intro _|simp only[List.set]|fail)))
 rename_i gp;have hs01:(vX l[i]).s=0\/(vX l[i]).s=1:=by show l[i].s%2=0\/l[i].s%2=1;omega
 generalize vX l[i]=p at *;rcases hs01 with hs|hs
 ·obtain⟨bz,wz,dz,hz⟩:=hP.a;obtain⟨bo,wo,dO,ho⟩:=hP.b;obtain⟨r,z',b1,w1,d1,hpl,hg,hS⟩:=JN (p:=p) hz ho dc dc om om;have hR:=Lg hz hg hpl;obtain⟨hrl,hev,hk,hq,hcg⟩:=Nh hP om;have hrl2:z'.rp.length<=100000:=by have:=hg.r;omega
  have hcz:=hg.cg dc;have hkz:=hcz.k;have hqz:=hcz.q.1.1;refine J5 [_] _ (EJ (nz:=[97]) (no:=[98]) (q:=q) (qo:=q') (z:=a) (o:=b) (gx:=gx) (ga:=q.g) (gb:=q'.g) (i:=p.s) hrl (.inl ⟨hs,rfl,rfl⟩)) (λu m1 hu=>?_);obtain⟨rfl,rfl⟩:=hu;repeat' first|refine O ?_|intro
  refine J5 [_] _ (bU (nz:=[97]) (no:=[98]) (q:=q) (qo:=q') (z:=a) (o:=b) (gx:=gx) (ga:=q.g) (gb:=q'.g) (i:=p.s) (.inl ⟨hs,rfl,rfl⟩)) (λu m1 hu=>?_);obtain⟨rfl,rfl⟩:=hu;repeat' first|refine O ?_|intro
  refine J5 [_] _ (bU (nz:=[97]) (no:=[98]) (q:=q) (qo:=q') (z:=a) (o:=b) (gx:=gx) (ga:=q.g) (gb:=q'.g) (i:=p.s) (.inl ⟨hs,rfl,rfl⟩)) (λu m1 hu=>?_);obtain⟨rfl,rfl⟩:=hu;repeat' first|refine O ?_|intro
  refine J5 [_] _ (hS q q' gx q.g q'.g none (.inl ⟨hs,rfl,rfl⟩)) (λu m1 hu=>?_);obtain⟨t,he,rfl,rfl⟩:=hu;repeat' first|refine O ?_|intro
  refine J5 [_] _ (EJ (nz:=[97]) (no:=[98]) (q:=t) (qo:=q') (z:=z') (o:=b) (gx:=gx) (ga:=q.g) (gb:=q'.g) (i:=p.s) hrl2 (.inl ⟨hs,he.symm,rfl⟩)) (λu m1 hu=>?_);obtain⟨rfl,rfl⟩:=hu;obtain⟨⟨L,hL,hL1,hL2⟩,hC,hH⟩:=hR;have hLl:(a.rp++L).length<=100000:=by rw[<- hL];exact hrl2
  rw[hL];have hm1:(a.rp.map K3).length=a.rp.length:=llm _;have hm2:((a.rp++L).map K3).length=a.rp.length+L.length:=by rw[llm,lla]
  repeat' first|refine O ?_|intro
  rw[hm1,hm2];repeat' first|refine O ?_|intro
  repeat ((first|refine H6 ?_|refine D5 ?_|refine U3 ?_);(repeat' (first|refine Za ?_|refine p9 (λ_=>?_)|intro _|simp only[List.set]|fail)))
  refine vK 0 a.rp.length ?_;rw[show (((a.rp++L).map K3).take a.rp.length).drop 0=a.rp.map K3 from by rw[List.drop_zero,List.map_append,List.take_left' hm1]];repeat' first|refine O ?_|intro
  repeat ((first|refine H6 ?_|refine D5 ?_|refine U3 ?_);(repeat' (first|refine Za ?_|refine p9 (λ_=>?_)|intro _|simp only[List.set]|fail)))
  by_cases hk3:p.k=3
  ·rw[dT hk3];cases r
   ·repeat' first|refine O ?_|intro
    repeat ((first|refine H6 ?_|refine D5 ?_|refine U3 ?_);(repeat' (first|refine Za ?_|refine p9 (λ_=>?_)|intro _|simp only[List.set]|fail)))
    exact y7 (i+1,z',b,t,q') za (by dsimp only;rw[he];exact List.sublist_cons_self _ _) ⟨hil,by show i+1<=30;omega,by rw[<- Nat.add_assoc];exact⟨⟨_,_,_,hg⟩,⟨_,_,_,ho.up⟩⟩⟩ (by dsimp only;omega)
   obtain⟨c1,c2⟩:=hC hk3 rfl;have hL3:=hL1 hk3 rfl;have hLb:a.rp.length+L.length<=100000:=by rw[lla] at hLl;exact hLl
   repeat' first|refine O ?_|intro
   repeat ((first|refine H6 ?_|refine D5 ?_|refine U3 ?_);(repeat' (first|refine Za ?_|refine p9 (λ_=>?_)|intro _|simp only[List.set]|fail)))
   rw[hm1,hm2];repeat' first|refine O ?_|intro
   repeat ((first|refine H6 ?_|refine D5 ?_|refine U3 ?_);(repeat' (first|refine Za ?_|refine p9 (λ_=>?_)|intro _|simp only[List.set]|fail)))
   refine J5 [_] _ (bU (nz:=[97]) (no:=[98]) (q:=t) (qo:=q') (z:=z') (o:=b) (gx:=gx) (ga:=q.g) (gb:=q'.g) (i:=p.s) (.inl ⟨hs,he.symm,rfl⟩)) (λu m1 hu=>?_);obtain⟨rfl,rfl⟩:=hu;repeat' first|refine O ?_|intro
   repeat ((first|refine H6 ?_|refine D5 ?_|refine U3 ?_);(repeat' (first|refine Za ?_|refine p9 (λ_=>?_)|intro _|simp only[]|fail)))
   refine J5 [_] _ (bU (nz:=[97]) (no:=[98]) (q:=t) (qo:=q') (z:=z') (o:=b) (gx:=gx) (ga:=q.g) (gb:=q'.g) (i:=p.s) (.inl ⟨hs,he.symm,rfl⟩)) (λu m1 hu=>?_);obtain⟨rfl,rfl⟩:=hu;repeat' first|refine O ?_|intro
   repeat ((first|refine H6 ?_|refine D5 ?_|refine U3 ?_);(repeat' (first|refine Za ?_|refine p9 (λ_=>?_)|intro _|simp only[]|fail)))
   exact y7 (i+1,z',b,t,q') za (by dsimp only;rw[<- he];exact List.sublist_cons_self _ _) ⟨hil,by show i+1<=30;omega,by rw[<- Nat.add_assoc];exact⟨⟨_,_,_,hg⟩,⟨_,_,_,ho.up⟩⟩⟩ (by dsimp only;omega)
  obtain rfl:=hL2 hk3;rw[List.append_nil,dZ hk3];repeat' first|refine O ?_|intro
  repeat ((first|refine H6 ?_|refine D5 ?_|refine U3 ?_);(repeat' (first|refine Za ?_|refine p9 (λ_=>?_)|intro _|simp only[List.set]|fail)))
  by_cases hk8:p.k=8
  ·repeat' first|refine O ?_|intro
   repeat ((first|refine H6 ?_|refine D5 ?_|refine U3 ?_);(repeat' (first|refine Za ?_|refine p9 (λ_=>?_)|intro _|simp only[List.set]|fail)))
   exact y7 (i+1,z',b,t,q') za (by dsimp only;rw[he];exact List.sublist_cons_self _ _) ⟨hil,by show i+1<=30;omega,by rw[<- Nat.add_assoc];exact⟨⟨_,_,_,hg⟩,⟨_,_,_,ho.up⟩⟩⟩ (by dsimp only;omega)
  have hh:=hH hk3 hk8;repeat' first|refine O ?_|intro
  repeat ((first|refine H6 ?_|refine D5 ?_|refine U3 ?_);(repeat' (first|refine Za ?_|refine p9 (λ_=>?_)|intro _|simp only[List.set]|fail)))
  refine J5 [_] _ (bU (nz:=[97]) (no:=[98]) (q:=t) (qo:=q') (z:=z') (o:=b) (gx:=gx) (ga:=q.g) (gb:=q'.g) (i:=p.s) (.inl ⟨hs,he.symm,rfl⟩)) (λu m1 hu=>?_);obtain⟨rfl,rfl⟩:=hu;repeat' first|refine O ?_|intro
  repeat ((first|refine H6 ?_|refine D5 ?_|refine U3 ?_);(repeat' (first|refine Za ?_|refine p9 (λ_=>?_)|intro _|simp only[]|fail)))
  exact y7 (i+1,z',b,t,q') za (by dsimp only;rw[<- he];exact List.sublist_cons_self _ _) ⟨hil,by show i+1<=30;omega,by rw[<- Nat.add_assoc];exact⟨⟨_,_,_,hg⟩,⟨_,_,_,ho.up⟩⟩⟩ (by dsimp only;omega)
 obtain⟨bz,wz,dz,hz⟩:=hP.b;obtain⟨bo,wo,dO,ho⟩:=hP.a;obtain⟨r,z',b1,w1,d1,hpl,hg,hS⟩:=JN (p:=p) hz ho dc dc om om;have hR:=Lg hz hg hpl;obtain⟨hrl,hev,hk,hq,hcg⟩:=Ng hP om;have hrl2:z'.rp.length<=100000:=by have:=hg.r;omega
 have hcz:=hg.cg dc;have hkz:=hcz.k;have hqz:=hcz.q.1.1;refine qQ (.var gp 28 (K9 p none)::(C8 gx q.g q'.g [98] [97] q' q b a)) _ ?_ (List.Perm.cons _ (List.Perm.cons _ List.perm_append_comm)) slr;refine J5 [_] _ (EJ (nz:=[98]) (no:=[97]) (q:=q') (qo:=q) (z:=b) (o:=a) (gx:=gx) (ga:=q.g) (gb:=q'.g) (i:=p.s) hrl (.inr ⟨hs,rfl,rfl⟩)) (λu m1 hu=>?_);obtain⟨rfl,rfl⟩:=hu;repeat' first|refine O ?_|intro
 refine J5 [_] _ (bU (nz:=[98]) (no:=[97]) (q:=q') (qo:=q) (z:=b) (o:=a) (gx:=gx) (ga:=q.g) (gb:=q'.g) (i:=p.s) (.inr ⟨hs,rfl,rfl⟩)) (λu m1 hu=>?_);obtain⟨rfl,rfl⟩:=hu;repeat' first|refine O ?_|intro
 refine J5 [_] _ (bU (nz:=[98]) (no:=[97]) (q:=q') (qo:=q) (z:=b) (o:=a) (gx:=gx) (ga:=q.g) (gb:=q'.g) (i:=p.s) (.inr ⟨hs,rfl,rfl⟩)) (λu m1 hu=>?_);obtain⟨rfl,rfl⟩:=hu;repeat' first|refine O ?_|intro
 refine J5 [_] _ (hS q' q gx q.g q'.g none (.inr ⟨hs,rfl,rfl⟩)) (λu m1 hu=>?_);obtain⟨t,he,rfl,rfl⟩:=hu;repeat' first|refine O ?_|intro
 refine J5 [_] _ (EJ (nz:=[98]) (no:=[97]) (q:=t) (qo:=q) (z:=z') (o:=a) (gx:=gx) (ga:=q.g) (gb:=q'.g) (i:=p.s) hrl2 (.inr ⟨hs,rfl,he.symm⟩)) (λu m1 hu=>?_);obtain⟨rfl,rfl⟩:=hu;obtain⟨⟨L,hL,hL1,hL2⟩,hC,hH⟩:=hR;have hLl:(b.rp++L).length<=100000:=by rw[<- hL];exact hrl2
 rw[hL];have hm1:(b.rp.map K3).length=b.rp.length:=llm _;have hm2:((b.rp++L).map K3).length=b.rp.length+L.length:=by rw[llm,lla]
 repeat' first|refine O ?_|intro
 rw[hm1,hm2];repeat' first|refine O ?_|intro
 repeat ((first|refine H6 ?_|refine D5 ?_|refine U3 ?_);(repeat' (first|refine Za ?_|refine p9 (λ_=>?_)|intro _|simp only[List.set]|fail)))
 refine vK 0 b.rp.length ?_;rw[show (((b.rp++L).map K3).take b.rp.length).drop 0=b.rp.map K3 from by rw[List.drop_zero,List.map_append,List.take_left' hm1]];repeat' first|refine O ?_|intro
 repeat ((first|refine H6 ?_|refine D5 ?_|refine U3 ?_);(repeat' (first|refine Za ?_|refine p9 (λ_=>?_)|intro _|simp only[List.set]|fail)))
 by_cases hk3:p.k=3
 ·rw[dT hk3];cases r
  ·repeat' first|refine O ?_|intro
   repeat ((first|refine H6 ?_|refine D5 ?_|refine U3 ?_);(repeat' (first|refine Za ?_|refine p9 (λ_=>?_)|intro _|simp only[List.set]|fail)))
   refine bG (.var gp 28 (K9 p none)::C8 gx q.g q'.g [97] [98] q t a z') _ ?_ (List.Perm.cons _ (List.Perm.cons _ List.perm_append_comm)) slr;exact y7 (i+1,a,z',q,t) za (by dsimp only;rw[he];exact List.sublist_cons_self _ _) ⟨hil,by show i+1<=30;omega,by rw[<- Nat.add_assoc];exact⟨⟨_,_,_,ho.up⟩,⟨_,_,_,hg⟩⟩⟩ (by dsimp only;omega)
  obtain⟨c1,c2⟩:=hC hk3 rfl;have hL3:=hL1 hk3 rfl;have hLb:b.rp.length+L.length<=100000:=by rw[lla] at hLl;exact hLl
  repeat' first|refine O ?_|intro
  repeat ((first|refine H6 ?_|refine D5 ?_|refine U3 ?_);(repeat' (first|refine Za ?_|refine p9 (λ_=>?_)|intro _|simp only[List.set]|fail)))
  rw[hm1,hm2];repeat' first|refine O ?_|intro
  repeat ((first|refine H6 ?_|refine D5 ?_|refine U3 ?_);(repeat' (first|refine Za ?_|refine p9 (λ_=>?_)|intro _|simp only[List.set]|fail)))
  refine J5 [_] _ (bU (nz:=[98]) (no:=[97]) (q:=t) (qo:=q) (z:=z') (o:=a) (gx:=gx) (ga:=q.g) (gb:=q'.g) (i:=p.s) (.inr ⟨hs,rfl,he.symm⟩)) (λu m1 hu=>?_);obtain⟨rfl,rfl⟩:=hu;repeat' first|refine O ?_|intro
  repeat ((first|refine H6 ?_|refine D5 ?_|refine U3 ?_);(repeat' (first|refine Za ?_|refine p9 (λ_=>?_)|intro _|simp only[]|fail)))
  refine J5 [_] _ (bU (nz:=[98]) (no:=[97]) (q:=t) (qo:=q) (z:=z') (o:=a) (gx:=gx) (ga:=q.g) (gb:=q'.g) (i:=p.s) (.inr ⟨hs,rfl,he.symm⟩)) (λu m1 hu=>?_);obtain⟨rfl,rfl⟩:=hu;repeat' first|refine O ?_|intro
  repeat ((first|refine H6 ?_|refine D5 ?_|refine U3 ?_);(repeat' (first|refine Za ?_|refine p9 (λ_=>?_)|intro _|simp only[]|fail)))
  refine bG (.var gp 28 (K9 p none)::C8 gx q.g q'.g [97] [98] q t a z') _ ?_ (List.Perm.cons _ (List.Perm.cons _ List.perm_append_comm)) slr;exact y7 (i+1,a,z',q,t) za (by dsimp only;rw[he];exact List.sublist_cons_self _ _) ⟨hil,by show i+1<=30;omega,by rw[<- Nat.add_assoc];exact⟨⟨_,_,_,ho.up⟩,⟨_,_,_,hg⟩⟩⟩ (by dsimp only;omega)
 obtain rfl:=hL2 hk3;rw[List.append_nil,dZ hk3];repeat' first|refine O ?_|intro
 repeat ((first|refine H6 ?_|refine D5 ?_|refine U3 ?_);(repeat' (first|refine Za ?_|refine p9 (λ_=>?_)|intro _|simp only[List.set]|fail)))
 by_cases hk8:p.k=8
 ·repeat' first|refine O ?_|intro
  repeat ((first|refine H6 ?_|refine D5 ?_|refine U3 ?_);(repeat' (first|refine Za ?_|refine p9 (λ_=>?_)|intro _|simp only[List.set]|fail)))
  refine bG (.var gp 28 (K9 p none)::C8 gx q.g q'.g [97] [98] q t a z') _ ?_ (List.Perm.cons _ (List.Perm.cons _ List.perm_append_comm)) slr;exact y7 (i+1,a,z',q,t) za (by dsimp only;rw[he];exact List.sublist_cons_self _ _) ⟨hil,by show i+1<=30;omega,by rw[<- Nat.add_assoc];exact⟨⟨_,_,_,ho.up⟩,⟨_,_,_,hg⟩⟩⟩ (by dsimp only;omega)
 have hh:=hH hk3 hk8;repeat' first|refine O ?_|intro
 repeat ((first|refine H6 ?_|refine D5 ?_|refine U3 ?_);(repeat' (first|refine Za ?_|refine p9 (λ_=>?_)|intro _|simp only[List.set]|fail)))
 refine J5 [_] _ (bU (nz:=[98]) (no:=[97]) (q:=t) (qo:=q) (z:=z') (o:=a) (gx:=gx) (ga:=q.g) (gb:=q'.g) (i:=p.s) (.inr ⟨hs,rfl,he.symm⟩)) (λu m1 hu=>?_);obtain⟨rfl,rfl⟩:=hu;repeat' first|refine O ?_|intro
 repeat ((first|refine H6 ?_|refine D5 ?_|refine U3 ?_);(repeat' (first|refine Za ?_|refine p9 (λ_=>?_)|intro _|simp only[]|fail)))
 refine bG (.var gp 28 (K9 p none)::C8 gx q.g q'.g [97] [98] q t a z') _ ?_ (List.Perm.cons _ (List.Perm.cons _ List.perm_append_comm)) slr;exact y7 (i+1,a,z',q,t) za (by dsimp only;rw[he];exact List.sublist_cons_self _ _) ⟨hil,by show i+1<=30;omega,by rw[<- Nat.add_assoc];exact⟨⟨_,_,_,ho.up⟩,⟨_,_,_,hg⟩⟩⟩ (by dsimp only;omega)⟩
end Go.Proofs.Z
