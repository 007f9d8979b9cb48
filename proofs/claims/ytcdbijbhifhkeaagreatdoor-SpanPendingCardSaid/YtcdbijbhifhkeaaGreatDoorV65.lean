/- . -/
import Derived.Test.YtcdbijbhifhkeaaGreatDoorV64
namespace Go.Proofs.Z
open Go Go.RowKit Tw Av Go.Proofs.Tryz
theorem b0x {ev:List EvX}{j:Nat}(h:j<ev.length):aW (ev.take (j+1))=aW (ev.take j)+rZ ev[j]:=by
 rw[List.take_succ_eq_append_getElem h,UN]
theorem b0y (v:EvX):-1<=rZ v/\rZ v<=1:=by
 unfold rZ;split <;> split <;> omega
theorem Xi:∀ l:List EvX,-(l.length:Int)<=aW l/\aW l<=l.length
 | []=>by decide
 | v::l=>by
  have h1:=b0y v;have h2:=Xi l;rw[List.length_cons];show -((l.length+1:Nat):Int)<=rZ v+aW l/\rZ v+aW l<=((l.length+1:Nat):Int);omega
abbrev V9P:=SpX × SpX × SpI × SpI
def AX (p:PlX):PlX:=if p.k=6 then { p with k:=5 } else p
theorem a4T (p:PlX):(AX p).k≠6:=by
 unfold AX;split
 ·show ¬ (5:Int)=6;decide
 assumption
theorem a4S (p:PlX):(AX p).s=p.s:=by
 unfold AX;split <;> rfl
def sd (k:Nat)(a b:SpX):SpX:=if k=0 then a else b
set_option maxRecDepth 100000 in
set_option maxHeartbeats 16000000 in
theorem a8w {l:List PlX}{xs:List AV}{id:Option Value}(hxs:xs=l.map λp=>K9 p none):Ans prog GL 5 [.sl 7 xs id] True (d9 true):=⟨λ_=>by
 subst hxs;have hml:(l.map λp=>K9 p none).length=l.length:=llm _;obtain⟨a0,b0,a1,b1,a2,b2,a3,b3,a4,b4,a5,b5,hN,hP⟩:=a4v (n:=2500) dc;refine zc func5 ntmps5 λ_ hs=>?_;repeat' first|refine O ?_|intro
 refine J5 [] _ (EK (n:=2500) dc hN) (λu m1 hu=>?_);obtain⟨gx,q,q',rfl,rfl⟩:=hu;repeat' first|refine O ?_|intro
 refine sO (α:=Unit) (λ_=>[(3,d9 true)]) (λ_=>[]) ?_ (λ_=>?_);rotate_left
 ·exact o8
 refine H7 (α:=Nat × V9P) (λz=>[(0,.sl 7 (l.map λp=>K9 p none) id),(3,d9 true),(4,ptr gx),(5,int z.1)]) (λz=>C8 gx z.2.2.2.1.g z.2.2.2.2.g [97] [98] z.2.2.2.1 z.2.2.2.2 z.2.1 z.2.2.1) (λz=>z.1<=l.length/\z.1<=30/\PrP (10+z.1) z.2.1 z.2.2.1) (λz=>l.length-z.1) (0,a5,b5,q,q') za slr ⟨Nat.zero_le _,Nat.zero_le _,hP⟩ ?_;rintro⟨i,a,b,q,q'⟩ ⟨hi,hi2,hP⟩;dsimp only at hi hi2 hP ⊢;by_cases hil:i<l.length
 rotate_left
 ·repeat' first|refine O ?_|intro
  repeat ((first|refine H6 ?_|refine D5 ?_|refine U3 ?_);(repeat' (first|refine Za ?_|refine p9 (λ_=>?_)|intro _|simp only[List.set]|fail)))
  exact P9 () za (List.nil_sublist _)
 by_cases hi3:i<30
 rotate_left
 ·repeat' first|refine O ?_|intro
  repeat ((first|refine H6 ?_|refine D5 ?_|refine U3 ?_);(repeat' (first|refine Za ?_|refine p9 (λ_=>?_)|intro _|simp only[List.set]|fail)))
  exact P9 () za (List.nil_sublist _)
 repeat' first|refine O ?_|intro
 repeat ((first|refine H6 ?_|refine D5 ?_|refine U3 ?_);(repeat' (first|refine Za ?_|refine p9 (λ_=>?_)|intro _|simp only[List.set]|fail)))
 rename_i gp;have hs01:(vX l[i]).s=0\/(vX l[i]).s=1:=by show l[i].s%2=0\/l[i].s%2=1;omega
 generalize vX l[i]=p at *;refine PS (α:=Unit) (λ_=>[(0,.sl 7 (l.map λp=>K9 p none) id),(3,d9 true),(4,ptr gx),(5,int i),(6,ptr gp)]) (λ_=>.var gp 28 (K9 (AX p) none)::C8 gx q.g q'.g [97] [98] q q' a b) ?_ (λ_=>?_)
 ·by_cases h:p.k=6
  ·have e:AX p={ p with k:=5 }:=if_pos h;rw[dT h,e];repeat' first|refine O ?_|intro
   exact P9 () za slr
  have e:AX p=p:=if_neg h;rw[dZ h,e];repeat' first|refine O ?_|intro
  exact P9 () za slr
 obtain⟨r,a',b',hP',hS⟩:=a4X (p:=AX p) hP om (by rw[a4S];exact hs01) (a4T p);generalize AX p=p' at *;repeat' first|refine O ?_|intro
 refine J5 [_] _ (hS q q' gx none) (λu m1 hu=>?_);obtain⟨t,t',rfl,rfl⟩:=hu;repeat' first|refine O ?_|intro
 have hP2:PrP (10+i+1) a' b':=hP';refine H7 (α:=Nat) (λk=>[(0,.sl 7 (l.map λp=>K9 p none) id),(3,d9 true),(4,ptr gx),(5,int i),(7,int k)]) (λ_=>C8 gx t.g t'.g [97] [98] t t' a' b') (λk=>k<=2) (λk=>2-k) 0 za (List.sublist_cons_self _ _) (Nat.zero_le _) ?_;intro k hk2;by_cases hkl:k<2
 rotate_left
 ·repeat' first|refine O ?_|intro
  exact y7 (i+1,a',b',t,t') za slr ⟨hil,by show i+1<=30;omega,by rw[<- Nat.add_assoc];exact hP'⟩ (by dsimp only;omega)
 obtain⟨bA,wA,dA,hA⟩:=hP2.a;obtain⟨bB,wB,dB,hB⟩:=hP2.b;have hca:=hA.g.cg dc;have hcb:=hB.g.cg dc;have hpa:=hA.pen dc;have hpb:=hB.pen dc;have hva:a'.c.ev.length<=1000000:=hca.v;have hvb:b'.c.ev.length<=1000000:=hcb.v;have hev:(sd k a' b').c.ev.length<=1000000:=by unfold sd;split <;> assumption
 repeat' first|refine O ?_|intro
 refine a0t (α:=Unit) (λ_=>[(0,.sl 7 (l.map λp=>K9 p none) id),(3,d9 true),(4,ptr gx),(5,int i),(7,int k),(8,.sl 15 ((sd k a' b').c.ev.map O0) none)]) (λ_=>C8 gx t.g t'.g [97] [98] t t' a' b') ?_ (λ_=>?_)
 ·obtain rfl|rfl:k=0\/k=1:=by omega
  ·rw[show ((0:Nat):Int)=0 from rfl];refine J5 [] _ (bU (nz:=[97]) (no:=[98]) (q:=t) (qo:=t') (z:=a') (o:=b') (gx:=gx) (ga:=t.g) (gb:=t'.g) (i:=0) (.inl ⟨rfl,rfl,rfl⟩)) (λu m1 hu=>?_);obtain⟨rfl,rfl⟩:=hu;repeat' first|refine O ?_|intro
   exact P9 () za slr
  rw[show ((1:Nat):Int)=1 from rfl];refine J5 [] _ (yO (bU (nz:=[98]) (no:=[97]) (q:=t') (qo:=t) (z:=b') (o:=a') (gx:=gx) (ga:=t.g) (gb:=t'.g) (i:=1) (.inr ⟨rfl,rfl,rfl⟩))) (λu m1 hu=>?_);obtain⟨rfl,rfl⟩:=hu;repeat' first|refine O ?_|intro
  exact P9 () za slr
 have hpk:k=0/\(iW a'.c:Int)=aW (sd k a' b').c.ev\/k=1/\(iW b'.c:Int)=aW (sd k a' b').c.ev:=by
  obtain rfl|rfl:k=0\/k=1:=by omega
  ·exact .inl ⟨rfl,hpa⟩
  exact .inr ⟨rfl,hpb⟩
 generalize (sd k a' b').c.ev=ev at *;have hme:(ev.map O0).length=ev.length:=llm _;repeat' first|refine O ?_|intro
 refine sO (α:=Unit) (λ_=>[(0,.sl 7 (l.map λp=>K9 p none) id),(3,d9 true),(4,ptr gx),(5,int i),(7,int k),(9,int (aW ev))]) (λ_=>C8 gx t.g t'.g [97] [98] t t' a' b') ?_ (λ_=>?_)
 ·refine H7 (α:=Nat) (λj=>[(0,.sl 7 (l.map λp=>K9 p none) id),(3,d9 true),(4,ptr gx),(5,int i),(7,int k),(8,.sl 15 (ev.map O0) none),(9,int (aW (ev.take j))),(10,int j)]) (λ_=>C8 gx t.g t'.g [97] [98] t t' a' b') (λj=>j<=ev.length) (λj=>ev.length-j) 0 za slr (Nat.zero_le _) ?_;intro j hj;by_cases hjl:j<ev.length
  rotate_left
  ·obtain rfl:j=ev.length:=by omega
   rw[List.take_length];repeat' first|refine O ?_|intro
   exact P9 () za slr
  have hc:=Xi (ev.take j);have hcl:(ev.take j).length<=ev.length:=List.length_take_le' _ _;have hn:=b0x hjl;obtain⟨c,hcc⟩:∃ c,aW (ev.take j)=c:=⟨_,rfl⟩;rw[hcc] at hc hn ⊢;have hr:∀ c':Int,c'=aW (ev.take (j+1))->some (int c')=some (int (aW (ev.take (j+1)))):=λc' e=>by rw[e]
  unfold rZ at hn;by_cases h13:ev[j].k=13
  ·rw[if_pos h13,if_neg om] at hn;repeat' first|refine O ?_|intro
   repeat ((first|refine H6 ?_|refine D5 ?_|refine U3 ?_);(repeat' (first|refine Za ?_|refine p9 (λ_=>?_)|intro _|simp only[List.set]|fail)))
   exact y7 (j+1) ⟨rfl,rfl,rfl,rfl,rfl,rfl,hr (c+1) om,rfl,trivial⟩ slr hjl om
  by_cases h15:ev[j].k=15
  ·rw[if_neg h13,if_pos (.inl h15)] at hn;repeat' first|refine O ?_|intro
   repeat ((first|refine H6 ?_|refine D5 ?_|refine U3 ?_);(repeat' (first|refine Za ?_|refine p9 (λ_=>?_)|intro _|simp only[List.set]|fail)))
   exact y7 (j+1) ⟨rfl,rfl,rfl,rfl,rfl,rfl,hr (c-1) om,rfl,trivial⟩ slr hjl om
  by_cases h16:ev[j].k=16
  ·rw[if_neg h13,if_pos (.inr h16)] at hn;repeat' first|refine O ?_|intro
   repeat ((first|refine H6 ?_|refine D5 ?_|refine U3 ?_);(repeat' (first|refine Za ?_|refine p9 (λ_=>?_)|intro _|simp only[List.set]|fail)))
   exact y7 (j+1) ⟨rfl,rfl,rfl,rfl,rfl,rfl,hr (c-1) om,rfl,trivial⟩ slr hjl om
  rw[if_neg h13,if_neg om] at hn;repeat' first|refine O ?_|intro
  repeat ((first|refine H6 ?_|refine D5 ?_|refine U3 ?_);(repeat' (first|refine Za ?_|refine p9 (λ_=>?_)|intro _|simp only[List.set]|fail)))
  exact y7 (j+1) ⟨rfl,rfl,rfl,rfl,rfl,rfl,hr c om,rfl,trivial⟩ slr hjl om
 rcases hpk with⟨rfl,hpk⟩|⟨rfl,hpk⟩
 ·rw[show ((0:Nat):Int)=0 from rfl];repeat' first|refine O ?_|intro
  refine J5 [] _ (zN (nz:=[97]) (no:=[98]) (q:=t) (qo:=t') (z:=a') (o:=b') (gx:=gx) (ga:=t.g) (gb:=t'.g) (i:=0) (.inl ⟨rfl,rfl,rfl⟩) hca) (λu m1 hu=>?_);obtain⟨rfl,rfl⟩:=hu;rw[hpk];repeat' first|refine O ?_|intro
  exact y7 1 za slr dc dc
 rw[show ((1:Nat):Int)=1 from rfl];repeat' first|refine O ?_|intro
 refine J5 [] _ (yO (zN (nz:=[98]) (no:=[97]) (q:=t') (qo:=t) (z:=b') (o:=a') (gx:=gx) (ga:=t.g) (gb:=t'.g) (i:=1) (.inr ⟨rfl,rfl,rfl⟩) hcb)) (λu m1 hu=>?_);obtain⟨rfl,rfl⟩:=hu;rw[hpk];repeat' first|refine O ?_|intro
 exact y7 2 za slr dc dc⟩
end Go.Proofs.Z
