/- law 22: SpanSame -/
import Derived.Test.YtcdbijbhifhkeaaGreatDoorV54
namespace Go.Proofs.Z
open Go Go.RowKit Tw Av Go.Proofs.Tryz
abbrev V8:=SpX × SpX × SpI × SpI × SpI × SpI
abbrev JO (gx hx:Nat)(z:V8):List Av.Piece:=C8 gx z.2.2.1.g z.2.2.2.1.g [97] [98] z.2.2.1 z.2.2.2.1 z.1 z.2.1++C8 hx z.2.2.2.2.1.g z.2.2.2.2.2.g [97] [98] z.2.2.2.2.1 z.2.2.2.2.2 z.1 z.2.1
set_option maxRecDepth 100000 in
set_option maxHeartbeats 16000000 in
theorem a8n {l:List PlX}{xs:List AV}{id:Option Value}(hxs:xs=l.map λp=>K9 p none):Ans prog GL 7 [.sl 7 xs id] True (d9 true):=⟨λ_=>by
 subst hxs;have hml:(l.map λp=>K9 p none).length=l.length:=llm _;obtain⟨a0,b0,a1,b1,a2,b2,a3,b3,a4,b4,a5,b5,hN,hP⟩:=a4E;refine zc func7 ntmps7 λ_ hs=>?_;repeat' first|refine O ?_|intro
 refine J5 [] _ (EK (n:=1000) dc hN) (λu m1 hu=>?_);obtain⟨gx,q,q',rfl,rfl⟩:=hu;repeat' first|refine O ?_|intro
 refine qQ (C8 gx q.g q'.g [97] [98] q q' a5 b5++[]) _ ?_ (by rw[List.append_nil];exact List.Perm.refl _) slr;refine J5 _ _ (EK (n:=1000) dc hN) (λu m1 hu=>?_);obtain⟨hx,r,r',rfl,rfl⟩:=hu;repeat' first|refine O ?_|intro
 repeat ((first|refine H6 ?_|refine D5 ?_);(repeat' (first|refine Za ?_|refine p9 (λ_=>?_)|intro _|simp only[List.set]|fail)))
 refine sO (α:={ z:V8 // ∃ N,N<=60/\PrG N z.1 z.2.1 }) (λ_=>[(3,d9 true),(4,ptr gx),(5,ptr hx)]) (λz=>JO gx hx z.1) ?_ (λz=>?_)
 ·refine H7 (α:=Nat × V8) (λz=>[(0,.sl 7 (l.map λp=>K9 p none) id),(3,d9 true),(4,ptr gx),(5,ptr hx),(6,int z.1)]) (λz=>JO gx hx z.2) (λz=>z.1<=l.length/\z.1<=30/\PrG (10+z.1) z.2.1 z.2.2.1) (λz=>l.length-z.1) (0,a5,b5,q,q',r,r') za slr ⟨Nat.zero_le _,Nat.zero_le _,hP⟩ ?_;rintro⟨i,a,b,q,q',r,r'⟩ ⟨hi,hi2,hP⟩;dsimp only at hi hi2 hP ⊢;by_cases hil:i<l.length
  rotate_left
  ·repeat' first|refine O ?_|intro
   repeat ((first|refine H6 ?_|refine D5 ?_);(repeat' (first|refine Za ?_|refine p9 (λ_=>?_)|intro _|simp only[List.set]|fail)))
   exact P9 ⟨(a,b,q,q',r,r'),10+i,om,hP⟩ za slr
  by_cases hi3:i<30
  rotate_left
  ·repeat' first|refine O ?_|intro
   repeat ((first|refine H6 ?_|refine D5 ?_);(repeat' (first|refine Za ?_|refine p9 (λ_=>?_)|intro _|simp only[List.set]|fail)))
   exact P9 ⟨(a,b,q,q',r,r'),10+i,om,hP⟩ za slr
  repeat' first|refine O ?_|intro
  repeat ((first|refine H6 ?_|refine D5 ?_);(repeat' (first|refine iP ?_|refine M8 ?_|refine Q4 ?_|refine L8 ?_|intro _)))
  rw[dT (show (i:Int)<30 by omega)];repeat' (first|refine iP ?_|refine M8 ?_|refine Q4 ?_|refine L8 ?_|intro _)
  refine BX [0,1,3,4,2,5,6] kr rfl hs kr ?_;repeat' first|refine O ?_|intro
  rename_i gp;obtain⟨rr,a',b',hP',hS⟩:=a4Y hP om (p:=vX l[i]) (by show l[i].s%2=0\/l[i].s%2=1;omega);apply aH [1,2,3,4,5,6,7,8,9,10,11,12,13,14,15,16,17,18,19,20,21,22,23];exact rfl;exact rfl;exact rfl;kernel_rfl;intro sQ hQ;refine T9 (hS q q' gx none) (λu m1 hu=>?_);obtain⟨t,t',rfl,rfl⟩:=hu;refine j5 (W9 (C8 gx t.g t'.g [97] [98] t t' a' b') [] rfl rfl lpr rfl ?_);refine DJ (.var gp 28 (K9 (vX l[i]) none)::(C8 gx t.g t'.g [97] [98] t t' a' b'++C8 hx r.g r'.g [97] [98] r r' a b)) ?_ kr;repeat' first|refine O ?_|intro
  apply aH [24,25,26,27,28,29,30,31,32,33,34,35,36,37,38,39,40,41,42,43,44,45,46];exact rfl;exact rfl;exact rfl;kernel_rfl;intro sQ2 hQ2;refine T9 (hS r r' hx none) (λu m1 hu=>?_);obtain⟨v,v',rfl,rfl⟩:=hu;refine j5 (W9 (C8 hx v.g v'.g [97] [98] v v' a' b') [] rfl rfl lpr rfl ?_);refine DJ (.var gp 28 (K9 (vX l[i]) none)::JO gx hx (a',b',t,t',v,v')) ?_ kr;repeat' first|refine O ?_|intro
  exact y7 (i+1,a',b',t,t',v,v') za (List.sublist_cons_self _ _) ⟨hil,by show i+1<=30;omega,by rw[<- Nat.add_assoc];exact hP'⟩ (by dsimp only;omega)
 obtain⟨⟨a,b,q,q',r,r'⟩,N,hN60,hPr⟩:=z;dsimp only at hPr ⊢;repeat' first|refine O ?_|intro
 refine sO (α:=Unit) (λ_=>[(3,d9 true)]) (λ_=>[]) ?_ (λ_=>?_);rotate_left
 ·exact o8
 refine H7 (α:=Nat) (λi=>[(3,d9 true),(4,ptr gx),(5,ptr hx),(8,int i)]) (λ_=>JO gx hx (a,b,q,q',r,r')) (λi=>i<=2) (λi=>2-i) 0 za slr (Nat.zero_le _) ?_;intro i hi;obtain rfl|rfl|rfl:i=2\/i=0\/i=1:=by omega
 ·repeat' first|refine O ?_|intro
  exact P9 () za (List.nil_sublist _)
 ·rw[show ((0:Nat):Int)=0 from rfl];obtain⟨hrl,hev,hk,hq,hcg⟩:=Nh hPr hN60;dsimp only[JO];repeat' first|refine O ?_|intro
  refine aI [] (C8 gx q.g q'.g [97] [98] q q' a b) (C8 hx r.g r'.g [97] [98] r r' a b) (EJ (nz:=[97]) (no:=[98]) (q:=q) (qo:=q') (z:=a) (o:=b) (gx:=gx) (ga:=q.g) (gb:=q'.g) (i:=0) hrl (.inl ⟨rfl,rfl,rfl⟩)) (λu m1 hu=>?_);obtain⟨rfl,rfl⟩:=hu;repeat' first|refine O ?_|intro
  refine J5 (C8 gx q.g q'.g [97] [98] q q' a b) _ (EJ (nz:=[97]) (no:=[98]) (q:=r) (qo:=r') (z:=a) (o:=b) (gx:=hx) (ga:=r.g) (gb:=r'.g) (i:=0) hrl (.inl ⟨rfl,rfl,rfl⟩)) (λu m1 hu=>?_);obtain⟨rfl,rfl⟩:=hu;repeat' first|refine O ?_|intro
  refine aI [] (C8 gx q.g q'.g [97] [98] q q' a b) (C8 hx r.g r'.g [97] [98] r r' a b) (bU (nz:=[97]) (no:=[98]) (q:=q) (qo:=q') (z:=a) (o:=b) (gx:=gx) (ga:=q.g) (gb:=q'.g) (i:=0) (.inl ⟨rfl,rfl,rfl⟩)) (λu m1 hu=>?_);obtain⟨rfl,rfl⟩:=hu;repeat' first|refine O ?_|intro
  refine J5 (C8 gx q.g q'.g [97] [98] q q' a b) _ (bU (nz:=[97]) (no:=[98]) (q:=r) (qo:=r') (z:=a) (o:=b) (gx:=hx) (ga:=r.g) (gb:=r'.g) (i:=0) (.inl ⟨rfl,rfl,rfl⟩)) (λu m1 hu=>?_);obtain⟨rfl,rfl⟩:=hu;repeat' first|refine O ?_|intro
  repeat ((first|refine H6 ?_|refine D5 ?_);(repeat' (first|refine Za ?_|refine p9 (λ_=>?_)|intro _|simp only[List.set]|fail)))
  refine aI [] (C8 gx q.g q'.g [97] [98] q q' a b) (C8 hx r.g r'.g [97] [98] r r' a b) (bU (nz:=[97]) (no:=[98]) (q:=q) (qo:=q') (z:=a) (o:=b) (gx:=gx) (ga:=q.g) (gb:=q'.g) (i:=0) (.inl ⟨rfl,rfl,rfl⟩)) (λu m1 hu=>?_);obtain⟨rfl,rfl⟩:=hu;repeat' first|refine O ?_|intro
  repeat ((first|refine H6 ?_|refine D5 ?_);(repeat' (first|refine Za ?_|refine p9 (λ_=>?_)|intro _|simp only[]|fail)))
  refine J5 (C8 gx q.g q'.g [97] [98] q q' a b) _ (bU (nz:=[97]) (no:=[98]) (q:=r) (qo:=r') (z:=a) (o:=b) (gx:=hx) (ga:=r.g) (gb:=r'.g) (i:=0) (.inl ⟨rfl,rfl,rfl⟩)) (λu m1 hu=>?_);obtain⟨rfl,rfl⟩:=hu;repeat' first|refine O ?_|intro
  repeat ((first|refine H6 ?_|refine D5 ?_);(repeat' (first|refine Za ?_|refine p9 (λ_=>?_)|intro _|simp only[]|fail)))
  refine aI [] (C8 gx q.g q'.g [97] [98] q q' a b) (C8 hx r.g r'.g [97] [98] r r' a b) (zN (nz:=[97]) (no:=[98]) (q:=q) (qo:=q') (z:=a) (o:=b) (gx:=gx) (ga:=q.g) (gb:=q'.g) (i:=0) (.inl ⟨rfl,rfl,rfl⟩) hcg) (λu m1 hu=>?_);obtain⟨rfl,rfl⟩:=hu;repeat' first|refine O ?_|intro
  repeat ((first|refine H6 ?_|refine D5 ?_);(repeat' (first|refine Za ?_|refine p9 (λ_=>?_)|intro _|simp only[List.set]|fail)))
  refine J5 (C8 gx q.g q'.g [97] [98] q q' a b) _ (zN (nz:=[97]) (no:=[98]) (q:=r) (qo:=r') (z:=a) (o:=b) (gx:=hx) (ga:=r.g) (gb:=r'.g) (i:=0) (.inl ⟨rfl,rfl,rfl⟩) hcg) (λu m1 hu=>?_);obtain⟨rfl,rfl⟩:=hu;repeat' first|refine O ?_|intro
  repeat ((first|refine H6 ?_|refine D5 ?_);(repeat' (first|refine Za ?_|refine p9 (λ_=>?_)|intro _|simp only[List.set]|fail)))
  exact y7 1 za zb dc dc
 rw[show ((1:Nat):Int)=1 from rfl];obtain⟨hrl,hev,hk,hq,hcg⟩:=Ng hPr hN60;dsimp only[JO];repeat' first|refine O ?_|intro
 refine aI [] (C8 gx q.g q'.g [97] [98] q q' a b) (C8 hx r.g r'.g [97] [98] r r' a b) (yO (EJ (nz:=[98]) (no:=[97]) (q:=q') (qo:=q) (z:=b) (o:=a) (gx:=gx) (ga:=q.g) (gb:=q'.g) (i:=1) hrl (.inr ⟨rfl,rfl,rfl⟩))) (λu m1 hu=>?_);obtain⟨rfl,rfl⟩:=hu;repeat' first|refine O ?_|intro
 refine J5 (C8 gx q.g q'.g [97] [98] q q' a b) _ (yO (EJ (nz:=[98]) (no:=[97]) (q:=r') (qo:=r) (z:=b) (o:=a) (gx:=hx) (ga:=r.g) (gb:=r'.g) (i:=1) hrl (.inr ⟨rfl,rfl,rfl⟩))) (λu m1 hu=>?_);obtain⟨rfl,rfl⟩:=hu;repeat' first|refine O ?_|intro
 refine aI [] (C8 gx q.g q'.g [97] [98] q q' a b) (C8 hx r.g r'.g [97] [98] r r' a b) (yO (bU (nz:=[98]) (no:=[97]) (q:=q') (qo:=q) (z:=b) (o:=a) (gx:=gx) (ga:=q.g) (gb:=q'.g) (i:=1) (.inr ⟨rfl,rfl,rfl⟩))) (λu m1 hu=>?_);obtain⟨rfl,rfl⟩:=hu;repeat' first|refine O ?_|intro
 refine J5 (C8 gx q.g q'.g [97] [98] q q' a b) _ (yO (bU (nz:=[98]) (no:=[97]) (q:=r') (qo:=r) (z:=b) (o:=a) (gx:=hx) (ga:=r.g) (gb:=r'.g) (i:=1) (.inr ⟨rfl,rfl,rfl⟩))) (λu m1 hu=>?_);obtain⟨rfl,rfl⟩:=hu;repeat' first|refine O ?_|intro
 repeat ((first|refine H6 ?_|refine D5 ?_);(repeat' (first|refine Za ?_|refine p9 (λ_=>?_)|intro _|simp only[List.set]|fail)))
 refine aI [] (C8 gx q.g q'.g [97] [98] q q' a b) (C8 hx r.g r'.g [97] [98] r r' a b) (yO (bU (nz:=[98]) (no:=[97]) (q:=q') (qo:=q) (z:=b) (o:=a) (gx:=gx) (ga:=q.g) (gb:=q'.g) (i:=1) (.inr ⟨rfl,rfl,rfl⟩))) (λu m1 hu=>?_);obtain⟨rfl,rfl⟩:=hu;repeat' first|refine O ?_|intro
 repeat ((first|refine H6 ?_|refine D5 ?_);(repeat' (first|refine Za ?_|refine p9 (λ_=>?_)|intro _|simp only[]|fail)))
 refine J5 (C8 gx q.g q'.g [97] [98] q q' a b) _ (yO (bU (nz:=[98]) (no:=[97]) (q:=r') (qo:=r) (z:=b) (o:=a) (gx:=hx) (ga:=r.g) (gb:=r'.g) (i:=1) (.inr ⟨rfl,rfl,rfl⟩))) (λu m1 hu=>?_);obtain⟨rfl,rfl⟩:=hu;repeat' first|refine O ?_|intro
 repeat ((first|refine H6 ?_|refine D5 ?_);(repeat' (first|refine Za ?_|refine p9 (λ_=>?_)|intro _|simp only[]|fail)))
 refine aI [] (C8 gx q.g q'.g [97] [98] q q' a b) (C8 hx r.g r'.g [97] [98] r r' a b) (yO (zN (nz:=[98]) (no:=[97]) (q:=q') (qo:=q) (z:=b) (o:=a) (gx:=gx) (ga:=q.g) (gb:=q'.g) (i:=1) (.inr ⟨rfl,rfl,rfl⟩) hcg)) (λu m1 hu=>?_);obtain⟨rfl,rfl⟩:=hu;repeat' first|refine O ?_|intro
 repeat ((first|refine H6 ?_|refine D5 ?_);(repeat' (first|refine Za ?_|refine p9 (λ_=>?_)|intro _|simp only[List.set]|fail)))
 refine J5 (C8 gx q.g q'.g [97] [98] q q' a b) _ (yO (zN (nz:=[98]) (no:=[97]) (q:=r') (qo:=r) (z:=b) (o:=a) (gx:=hx) (ga:=r.g) (gb:=r'.g) (i:=1) (.inr ⟨rfl,rfl,rfl⟩) hcg)) (λu m1 hu=>?_);obtain⟨rfl,rfl⟩:=hu;repeat' first|refine O ?_|intro
 repeat ((first|refine H6 ?_|refine D5 ?_);(repeat' (first|refine Za ?_|refine p9 (λ_=>?_)|intro _|simp only[List.set]|fail)))
 exact y7 2 za zb dc dc⟩
end Go.Proofs.Z
