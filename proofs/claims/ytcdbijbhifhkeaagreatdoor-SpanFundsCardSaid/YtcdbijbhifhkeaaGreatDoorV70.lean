/- . -/
import Derived.Test.YtcdbijbhifhkeaaGreatDoorV69
namespace Go.Proofs.Z
open Go Go.RowKit Tw Av Go.Proofs.Tryz
abbrev V9P:=SpX × SpX × SpI × SpI
def zL (p:PlX):PlX:={ p with s:=0,k:=if p.k=6\/p.k=7\/p.k=8 then 9 else p.k }
theorem a7T (p:PlX):(zL p).k≠6/\(zL p).k≠7/\(zL p).k≠8:=by
 show (if p.k=6\/p.k=7\/p.k=8 then (9:Int) else p.k)≠6/\(if p.k=6\/p.k=7\/p.k=8 then (9:Int) else p.k)≠7/\(if p.k=6\/p.k=7\/p.k=8 then (9:Int) else p.k)≠8;split <;> omega
theorem VY {w:Wd}(h:w.n<=1000000):G6 w=.agg 4 [.lit (.int .u64 (w.n:Int)),.lit (.int .u64 0),.lit (.int .u64 0),.lit (.int .u64 0)]:=by
 have e0:lm w.n 0=w.n:=by rw[zD];omega
 have e1:lm w.n 1=0:=by rw[DY];omega
 have e2:lm w.n 2=0:=by rw[DX];omega
 have e3:lm w.n 3=0:=by rw[DW];omega
 show aD w.n=_;show AV.agg 4 [u6 (lm w.n 0),u6 (lm w.n 1),u6 (lm w.n 2),u6 (lm w.n 3)]=_;rw[e0,e1,e2,e3];rfl
set_option maxRecDepth 100000 in
set_option maxHeartbeats 16000000 in
theorem a8J {l:List PlX}{xs:List AV}{id:Option Value}(hxs:xs=l.map λp=>K9 p none):Ans prog GL 4 [.sl 7 xs id] True (d9 true):=⟨λ_=>by
 subst hxs;have hml:(l.map λp=>K9 p none).length=l.length:=llm _;obtain⟨a0,b0,a1,b1,a2,b2,a3,b3,a4,b4,a5,b5,hN,hP⟩:=a4w (n:=1500) dc;refine zc func4 ntmps4 λ_ hs=>?_;repeat' first|refine O ?_|intro
 refine J5 [] _ (EK (n:=1500) dc hN) (λu m1 hu=>?_);obtain⟨gx,q,q',rfl,rfl⟩:=hu;repeat' first|refine O ?_|intro
 refine sO (α:=Unit) (λ_=>[(3,d9 true)]) (λ_=>[]) ?_ (λ_=>?_);rotate_left
 ·exact o8
 refine H7 (α:=Nat × V9P) (λz=>[(0,.sl 7 (l.map λp=>K9 p none) id),(3,d9 true),(4,ptr gx),(5,int z.1)]) (λz=>C8 gx z.2.2.2.1.g z.2.2.2.2.g [97] [98] z.2.2.2.1 z.2.2.2.2 z.2.1 z.2.2.1) (λz=>z.1<=l.length/\z.1<=30/\PrF (10+z.1) z.2.1 z.2.2.1) (λz=>l.length-z.1) (0,a5,b5,q,q') za slr ⟨Nat.zero_le _,Nat.zero_le _,hP⟩ ?_;rintro⟨i,a,b,q,q'⟩ ⟨hi,hi2,hP⟩;dsimp only at hi hi2 hP ⊢;by_cases hil:i<l.length
 rotate_left
 ·repeat' first|refine O ?_|intro
  repeat ((first|refine H6 ?_|refine D5 ?_|refine U3 ?_);(repeat' (first|refine Za ?_|refine p9 (λ_=>?_)|intro _|simp only[List.set]|fail)))
  exact P9 () za (List.nil_sublist _)
 by_cases hi3:i<30
 rotate_left
 ·repeat' first|refine O ?_|intro
  repeat ((first|refine H6 ?_|refine D5 ?_|refine U3 ?_);(repeat' (first|refine Za ?_|refine p9 (λ_=>?_)|intro _|simp only[List.set]|fail)))
  exact P9 () za (List.nil_sublist _)
 repeat' first|refine O ?_|intro
 repeat ((first|refine H6 ?_|refine D5 ?_|refine U3 ?_);(repeat' (first|refine Za ?_|refine p9 (λ_=>?_)|intro _|simp only[List.set]|fail)))
 rename_i gp;generalize vX l[i]=p at *;refine a0t (α:=Unit) (λ_=>[(0,.sl 7 (l.map λp=>K9 p none) id),(3,d9 true),(4,ptr gx),(5,int i),(6,ptr gp),(43,d9 (decide (p.k=6\/p.k=7\/p.k=8)))]) (λ_=>.var gp 28 (K9 { p with s:=0 } none)::C8 gx q.g q'.g [97] [98] q q' a b) ?_ (λ_=>?_)
 ·by_cases h6:p.k=6
  ·rw[dT (show p.k=6\/p.k=7\/p.k=8 by omega)];repeat' first|refine O ?_|intro
   repeat ((first|refine H6 ?_|refine D5 ?_|refine U3 ?_);(repeat' (first|refine Za ?_|refine p9 (λ_=>?_)|intro _|simp only[List.set]|fail)))
   exact P9 () za slr
  by_cases h7:p.k=7
  ·rw[dT (show p.k=6\/p.k=7\/p.k=8 by omega)];repeat' first|refine O ?_|intro
   repeat ((first|refine H6 ?_|refine D5 ?_|refine U3 ?_);(repeat' (first|refine Za ?_|refine p9 (λ_=>?_)|intro _|simp only[List.set]|fail)))
   exact P9 () za slr
  by_cases h8:p.k=8
  ·rw[dT (show p.k=6\/p.k=7\/p.k=8 by omega)];repeat' first|refine O ?_|intro
   repeat ((first|refine H6 ?_|refine D5 ?_|refine U3 ?_);(repeat' (first|refine Za ?_|refine p9 (λ_=>?_)|intro _|simp only[List.set]|fail)))
   exact P9 () ⟨rfl,rfl,rfl,rfl,rfl,by show some (d9 (decide (p.k=8)))=some (d9 true);rw[dT h8],trivial⟩ slr
  rw[dZ (show ¬ (p.k=6\/p.k=7\/p.k=8) by omega)];repeat' first|refine O ?_|intro
  repeat ((first|refine H6 ?_|refine D5 ?_|refine U3 ?_);(repeat' (first|refine Za ?_|refine p9 (λ_=>?_)|intro _|simp only[List.set]|fail)))
  exact P9 () ⟨rfl,rfl,rfl,rfl,rfl,by show some (d9 (decide (p.k=8)))=some (d9 false);rw[dZ h8],trivial⟩ slr
 refine PS (α:=Unit) (λ_=>[(0,.sl 7 (l.map λp=>K9 p none) id),(3,d9 true),(4,ptr gx),(5,int i),(6,ptr gp)]) (λ_=>.var gp 28 (K9 (zL p) none)::C8 gx q.g q'.g [97] [98] q q' a b) ?_ (λ_=>?_)
 ·by_cases h:p.k=6\/p.k=7\/p.k=8
  ·have e:zL p={ p with s:=0,k:=9 }:=by unfold zL;rw[if_pos h]
   rw[dT h,e];repeat' first|refine O ?_|intro
   exact P9 () za slr
  have e:zL p={ p with s:=0 }:=by unfold zL;rw[if_neg h]
  rw[dZ h,e];repeat' first|refine O ?_|intro
  exact P9 () za slr
 obtain⟨r,a',hP',hS⟩:=a4x (p:=zL p) hP om rfl (a7T p);have hP2:PrF (10+i+1) a' b:=hP';obtain⟨hcg,hs,hlo,hup⟩:=hP2.q om;have hk:=hcg.k;have hd:=hk.2;have hdl:=hd.l;generalize zL p=p' at *;repeat' first|refine O ?_|intro
 refine J5 [_] _ (hS q q' gx none) (λu m1 hu=>?_);obtain⟨t,t',rfl,rfl⟩:=hu;repeat' first|refine O ?_|intro
 refine J5 [_] _ (bU (nz:=[97]) (no:=[98]) (q:=t) (qo:=t') (z:=a') (o:=b) (gx:=gx) (ga:=t.g) (gb:=t'.g) (i:=0) (.inl ⟨rfl,rfl,rfl⟩)) (λu m1 hu=>?_);obtain⟨rfl,rfl⟩:=hu;repeat' first|refine O ?_|intro
 obtain⟨wA,zI⟩:∃ w,F9 (j3 a'.c) (F6 [97,110,110] [120])=w:=⟨_,rfl⟩;obtain⟨wE,hwE⟩:∃ w,F9 (j3 a'.c) (F6 [101,115,99,114,111,119,47,99] [120])=w:=⟨_,rfl⟩;obtain⟨wS,hwS⟩:∃ w,F9 (j3 a'.c) (R9 [120])=w:=⟨_,rfl⟩;have hs':wA.n+wE.n=wS.n:=by rw[<- zI,<- hwE,<- hwS];exact hs
 have hlo':1000<=wS.n:=by rw[<- hwS];exact hlo
 have hup':wS.n<=1000000:=by rw[<- hwS];exact hup
 rw[zI,hwE,hwS,VY (w:=wA) om,VY (w:=wE) om,VY (w:=wS) om];repeat' first|refine O ?_|intro
 repeat ((first|refine H6 ?_|refine D5 ?_|refine U3 ?_);(repeat' (first|refine Za ?_|refine p9 (λ_=>?_)|intro _|simp only[List.set]|fail)))
 rw[show lm wA.n 0=wA.n by rw[zD];omega,show lm wE.n 0=wE.n by rw[zD];omega];refine a0O (c:=(wS.n:Int)) ?_ rfl rfl (by show some ((wA.n:Int)+(wE.n:Int))=some (wS.n:Int);congr 1;omega) om om;repeat' first|refine O ?_|intro
 repeat ((first|refine H6 ?_|refine D5 ?_|refine U3 ?_);(repeat' (first|refine Za ?_|refine p9 (λ_=>?_)|intro _|simp only[List.set]|fail)))
 trace_state
 exact y7 (i+1,a',b,t,t') za zb ⟨hil,by show i+1<=30;omega,by rw[<- Nat.add_assoc];exact hP'⟩ (by dsimp only;omega)⟩
end Go.Proofs.Z
