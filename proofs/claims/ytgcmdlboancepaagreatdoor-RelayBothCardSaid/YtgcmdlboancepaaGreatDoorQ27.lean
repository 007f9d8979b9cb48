/- . -/
import Derived.Test.YtgcmdlboancepaaGreatDoorQ26
set_option maxHeartbeats 64000000
namespace Go.Proofs.Z
open Go Go.RowKit Tw Av Go.Proofs.Tryz
section
variable {h p:Int}{l:List Sta}{xs:List AV}{f:Bool}{c k:Bs}
theorem at1 {t:Int}{r:Hsh}{g:Nat}{T:TypeId}{n:Int}:Av.Spec prog GL 411 [.agg 34 [int h,int t,hA r],ptr g] [.var g T (int n)] λu m=>u=d9 (decide (n<=h))/\m=[.var g T (int n)]:=by
 refine ze func411 ntmps411 λ_ hs=>?_;repeat' first|refine O ?_|intro
 exact l9 [.var g T (int n)] ⟨rfl,rfl⟩ (List.sublist_cons_self _ _)
theorem a8C {i:Nat}(hi:i<l.length)(hb:∀ j,(hj:j<i)->¬ h<=(l[j]'(by omega)).h)(hh:h<=l[i].h):J5 l h=i:=by
 unfold J5;rw[List.findIdx_eq hi];exact⟨by simpa using hh,λj hj=>by simpa using hb j hj⟩
theorem a8D (hb:∀ j,(hj:j<l.length)->¬ h<=l[j].h):J5 l h=l.length:=by
 unfold J5;rw[List.findIdx_eq_length];intro x hx;obtain⟨j,hj,rfl⟩:=List.getElem_of_mem hx;simpa using hb j hj
theorem index_spec {id:Option Value}[hx:Stas xs l]{g:Nat}{T:TypeId}{n:Int}:Av.Spec prog GL 410 [.sl 34 xs id,E5 411 [.pointer (some ⟨g,0,none⟩)]] [.var g T (int n)] λu m=>u=int (if J5 l n<l.length then (J5 l n:Int) else -1)/\m=[.var g T (int n)]:=by
 have h:=hx.out;subst h;have hm:(l.map G8).length=l.length:=llm _;refine ze func410 ntmps410 λ_ hs=>?_;refine wF 0 (λhb=>?_);have hb:=nP hb;repeat' first|refine O ?_|intro
 refine y9 (α:=Nat) (λi=>[(0,.sl 34 (l.map G8) id),(1,E5 411 [.pointer (some ⟨g,0,none⟩)]),(7,int (l.map G8).length),(8,int i)]) (λi=>[.var g T (int n)])
  (λi=>i<=l.length/\∀ j,(hj:j<l.length)->j<i->¬ n<=l[j].h) (λi=>l.length-i) 0 zc slr ⟨Nat.zero_le _,λ_ _ h=>absurd h om⟩ ?_
 rintro i ⟨hi,hall⟩;repeat' first|refine O ?_|intro
 refine w9 (λhlt=>?_) (λhlt=>?_)
 ·have hil:i<l.length:=om
  repeat' first|refine O ?_|intro
  refine gU (args:=[G8 l[i]]) (cs:=[.pointer (some ⟨g,0,none⟩)]) [.var g T (int n)] _ (by rw[hs];exact at1) (λu m1 hh=>?_) lpr;obtain⟨rfl,rfl⟩:=hh;repeat' first|refine O ?_|intro
  refine w9 (λhh=>?_) (λhh=>?_)
  ·repeat' first|refine O ?_|intro
   refine l9 [.var g T (int n)] ⟨?_,rfl⟩ slr;rw[a8C hil (λj hj=>hall j om hj) hh,if_pos hil];rfl
  repeat' first|refine O ?_|intro
  refine o9 (i+1) zc slr ⟨hil,λj hj h=>?_⟩ om;rcases Nat.lt_or_ge j i with h2|h2
  ·exact hall j hj h2
  obtain rfl:j=i:=by omega
  exact hh
 obtain rfl:i=l.length:=by omega
 repeat' first|refine O ?_|intro
 refine l9 [.var g T (int n)] ⟨?_,rfl⟩ slr;rw[a8D (λj hj=>hall j hj hj),if_neg om];rfl
theorem a8B (hl:J5 l h<l.length):fD l h=decide (l[J5 l h].h=h):=by
 unfold fD;rw[List.getD,List.getElem?_eq_getElem hl];simp[hl]
theorem Ap (hl:¬ J5 l h<l.length):fD l h=false:=by
 unfold fD;simp[hl]
instance c1x {id:Option Value}{n:Int}[hx:Stas xs l]:Ans prog GL 365 [.agg 5 [str c,str k,int p,d9 f,.sl 34 xs id],int n] True (.tup [int (J5 l n),d9 (fD l n)]):=⟨λ_=>by
 have h:=hx.out;subst h;have hm:(l.map G8).length=l.length:=llm _;have hle:=LY l n;refine ze func365 ntmps365 λ_ hs=>?_;refine MI 0 4 (λhb=>?_);have hb:=nP hb;repeat' first|refine O ?_|intro
 rename_i g2 g3;refine Y3 (vs:=[.pointer (some ⟨g3,0,none⟩)]) ?_;repeat' first|refine O ?_|intro
 refine H6 [.var g3 3 (int n)] _ (by rw[hs];exact index_spec (l:=l) (xs:=l.map G8) (id:=id)) (λu m1 hh=>?_) lpr;obtain⟨rfl,rfl⟩:=hh;by_cases hl:J5 l n<l.length
 ·rw[if_pos hl,a8B hl];exact J7
 rw[if_neg hl,Ap hl];obtain hl:J5 l n=l.length:=by omega
 rw[hl];repeat' first|refine O ?_|intro
 refine j6 ?_;rw[hm];rfl⟩
instance c1v {id:Option Value}{n:Int}[hx:Stas xs l]:Ans prog GL 382 [.agg 5 [str c,str k,int p,d9 f,.sl 34 xs id],int n] True (.tup [G8 ((vQ l n).getD R8),d9 (vQ l n).isSome]):=⟨λ_=>by
 have h:=hx.out;subst h;have hm:(l.map G8).length=l.length:=llm _;refine ze func382 ntmps382 λ_ hs=>?_;cases hi:fD l n
 all_goals
  unfold vQ;rw[hi];repeat' first|refine O ?_|intro
  rw[hi];repeat' first|refine O ?_|intro
 focus
  exact j6 rfl
 have hl:J5 l n<l.length:=by
  rcases Nat.lt_or_ge (J5 l n) l.length with h|h
  ·exact h
  rw[Ap om] at hi;cases hi
 repeat' first|refine O ?_|intro
 refine j6 ?_;rw[List.getD,List.getElem?_eq_getElem hl];rfl⟩
theorem a6w {i:Nat}(hi:i<l.length)(hb:∀ j,(hj:j<i)->¬ (l[j]'(by omega)).h=h)(hh:l[i].h=h):vP l h=some l[i]:=by
 unfold vP;rw[List.find?_eq_some_iff_getElem];exact⟨by simpa using hh,i,hi,rfl,λj hj=>by simpa using hb j hj⟩
theorem a6x (hb:∀ j,(hj:j<l.length)->¬ l[j].h=h):vP l h=none:=by
 unfold vP;rw[List.find?_eq_none];intro x hx;obtain⟨j,hj,rfl⟩:=List.getElem_of_mem hx;simpa using hb j hj
instance b7K {id:Option Value}{n:Int}[hx:Stas xs l]:Ans prog GL 463 [.agg 5 [str c,str k,int p,d9 f,.sl 34 xs id],int n] True (.tup [G8 ((vP l n).getD R8),d9 (vP l n).isSome]):=⟨λ_=>by
 have h:=hx.out;subst h;have hm:(l.map G8).length=l.length:=llm _;refine ze func463 ntmps463 λ_ hs=>?_;refine MI 0 4 (λhb=>?_);have hb:=nP hb;repeat' first|refine O ?_|intro
 rename_i g2 g4;refine y9 (α:=Nat) (λi=>[(1,int n),(2,ptr g2),(4,ptr g4),(6,int i)]) (λi=>[.var g4 103 (G8 R8),.var g2 99 (.agg 5 [str c,str k,int p,d9 f,.sl 34 (l.map G8) id])])
  (λi=>i<=l.length/\∀ j,(hj:j<l.length)->j<i->¬ l[j].h=n) (λi=>l.length-i) 0 zc slr ⟨Nat.zero_le _,λ_ _ h=>absurd h om⟩ ?_
 rintro i ⟨hi,hall⟩;repeat' first|refine O ?_|intro
 refine w9 (λhlt=>?_) (λhlt=>?_)
 ·have hil:i<l.length:=om
  repeat' first|refine O ?_|intro
  refine w9 (λhh=>?_) (λhh=>?_)
  ·repeat' first|refine O ?_|intro
   refine j6 ?_;rw[a6w hil (λj hj=>hall j om hj) hh];rfl
  repeat' first|refine O ?_|intro
  refine o9 (i+1) zc slr ⟨hil,λj hj h=>?_⟩ om;rcases Nat.lt_or_ge j i with h2|h2
  ·exact hall j hj h2
  obtain rfl:j=i:=by omega
  exact hh
 obtain rfl:i=l.length:=by omega
 repeat' first|refine O ?_|intro
 refine j6 ?_;rw[a6x (λj hj=>hall j hj hj)];rfl⟩
end

theorem Vt {n:Nat}{p:Nat->Bool}:(List.range n).all p=true↔∀ j,j<n->p j=true:=by simp
theorem Lc {x:Cli}(h:¬ (x.k.length<=64/\1<=x.p/\x.p<=1099511627776/\1<=x.l.length/\x.l.length<=32)):aK x=false:=by
 unfold aK;simp only[h,decide_false,Bool.false_and]
theorem FL {x:Cli}{i:Nat}(hi:i<x.l.length)(h:rJ x.c x.l i=false):aK x=false:=by
 unfold aK;rw[Bool.and_eq_false_iff];refine .inr (Bool.eq_false_iff.2 λhh=>?_);have:=Vt.1 hh i hi;rw[h] at this;cases this
theorem Lb {x:Cli}(h:x.k.length<=64/\1<=x.p/\x.p<=1099511627776/\1<=x.l.length/\x.l.length<=32)(ha:∀ j,j<x.l.length->rJ x.c x.l j=true):aK x=true:=by
 unfold aK;simp only[h,decide_true,Bool.true_and,Vt.2 ha,and_self]
theorem WV {c:Bs}{l:List Sta}{i:Nat}(hi:i<l.length):rJ c l i=(aO ⟨c,l[i].h,l[i].t,l[i].r⟩&&(decide (i=0) || fA (l.getD (i-1) R8) l[i])):=by
 have hg:l.getD i R8=l[i]:=by simp[List.getD,hi]
 unfold rJ;rw[hg];rfl
instance b9H {c k:Bs}{p:Int}{f:Bool}{l:List Sta}{xs:List AV}{id:Option Value}[hx:Stas xs l]:Ans prog GL 184 [.agg 5 [str c,str k,int p,d9 f,.sl 34 xs id]] True (d9 (aK ⟨c,k,p,f,l⟩)):=⟨λ_=>by
 have h:=hx.out;subst h;have hm:(l.map G8).length=l.length:=llm _;refine ze func184 ntmps184 λ_ hs=>?_;refine MI 0 4 (λhb=>?_);have hb:=nP hb;by_cases hok:k.length<=64/\1<=p/\p<=1099511627776/\1<=l.length/\l.length<=32
 ·obtain⟨h1,h2,h3,h4,h5⟩:=hok;repeat' first|refine Z ?_|intro
  rename_i g1;refine y9 (α:=Nat) (λi=>[(1,ptr g1),(3,d9 true),(33,.sl 34 (l.map G8) id),(34,int (l.map G8).length),(35,int i)]) (λi=>[.var g1 99 (.agg 5 [str c,str k,int p,d9 f,.sl 34 (l.map G8) id])])
   (λi=>i<=l.length/\∀ j,j<i->rJ c l j=true) (λi=>l.length-i) 0 zc slr ⟨Nat.zero_le _,λ_ h=>absurd h om⟩ ?_
  rintro i ⟨hi,hall⟩;repeat' first|refine O ?_|intro
  refine w9 (λhlt=>?_) (λhlt=>?_)
  ·have hil:i<l.length:=om
   have hat:=WV (c:=c) hil;repeat' first|refine O ?_|intro
   cases hc:aO ⟨c,l[i].h,l[i].t,l[i].r⟩
   ·rw[hc,Bool.false_and] at hat;repeat' first|refine O ?_|intro
    refine j6 ?_;rw[FL (x:=⟨c,k,p,f,l⟩) hil hat];rfl
   rw[hc,Bool.true_and] at hat;rcases i with _|i
   ·have h0:∀ j,j<1->rJ c l j=true:=λj hj=>by
     obtain rfl:j=0:=by omega
     rw[hat];rfl
    repeat' first|refine O ?_|intro
    refine o9 1 zc ?_ ⟨hil,h0⟩ om;exact u7
   have hil2:i<l.length:=om
   have hg2:l.getD (i+1-1) R8=l[i]:=by simp[List.getD,hil2]
   rw[hg2,dZ om,Bool.false_or] at hat;repeat' first|refine O ?_|intro
   rw[dZ (show ¬ (((i+1:Nat):Int)=0) by omega)];repeat' first|refine O ?_|intro
   rw[show (((i+1:Nat):Int)-1)=(i:Int) by omega];cases hf:fA l[i] l[i+1]
   ·rw[hf] at hat;repeat' first|refine O ?_|intro
    rw[hf];repeat' first|refine O ?_|intro
    refine j6 ?_;rw[FL (x:=⟨c,k,p,f,l⟩) hil hat];rfl
   rw[hf] at hat;repeat' first|refine O ?_|intro
   rw[hf];repeat' first|refine O ?_|intro
   refine o9 (i+2) zc ?_ ⟨hil,λj hj=>?_⟩ om
   ·exact u7
   rcases Nat.lt_or_ge j (i+1) with h6|h6
   ·exact hall j h6
   obtain rfl:j=i+1:=by omega
   exact hat
  obtain rfl:i=l.length:=by omega
  repeat' first|refine O ?_|intro
  refine j6 ?_;rw[Lb ⟨h1,h2,h3,h4,h5⟩ hall];rfl
 rw[Lc hok];repeat' first|refine O ?_|intro
 refine X0 (λh=>?_) (λh6=>?_)
 ·exact J7
 repeat' first|refine O ?_|intro
 refine X0 (λh=>?_) (λh7=>?_)
 ·exact J7
 repeat' first|refine O ?_|intro
 refine X0 (λh=>?_) (λh8=>?_)
 ·exact J7
 repeat' first|refine O ?_|intro
 refine X0 (λh=>?_) (λh9=>?_)
 ·exact J7
 repeat' first|refine O ?_|intro
 refine uL ?_;exact J7⟩

section
variable {r:Hsh}{h p t:Int}{l:List Sta}{f:Bool}{c k:Bs}
theorem TU {a:Sta}:(decide (a.h=h)&&(decide (a.t=t)&&(decide (a.r=r)&&true)))=decide (a=⟨h,t,r⟩):=by
 rw[Bool.eq_iff_iff];simp only[Bool.and_eq_true,decide_eq_true_eq,and_true]
 constructor
 ·rintro⟨h1,h2,h3⟩;cases a
  simp_all
 rintro rfl;exact⟨rfl,rfl,rfl⟩
theorem XJ {n:Int}:Imp (.tup [.agg 5 [str [],str [],int 0,d9 false,J2],int n]) (.tup [nT pY,int n]):=(ImpR.imp:Imp _ (.tup [.agg 5 [str [],str [],int 0,d9 false,.sl 34 [] none],int n]))
theorem CL {id:Option Value}{n:Int}:Imp (.tup [.agg 5 [str c,str k,int p,d9 f,.sl 34 (l.map G8) id],int n]) (.tup [nT ⟨c,k,p,f,l⟩,int n]):=(ImpR.imp:Imp _ (.tup [.agg 5 [str c,str k,int p,d9 f,.sl 34 (l.map G8) none],int n]))
theorem KP {id:Option Value}:Imp (.agg 5 [str c,str k,int p,d9 f,.sl 34 (l.map G8) id]) (nT ⟨c,k,p,f,l⟩):=(ImpR.imp:Imp _ (.agg 5 [str c,str k,int p,d9 f,.sl 34 (l.map G8) none]))
instance b7y {xs:List AV}{id:Option Value}[hx:Stas xs l]:Ans prog GL 268 [.agg 5 [str c,str k,int p,d9 f,.sl 34 xs id]] True (d9 (aK ⟨c,k,p,f,l⟩)):=⟨λ_=>by
 have h:=hx.out;subst h;have hm:(l.map G8).length=l.length:=llm _;refine ze func268 ntmps268 λ_ hs=>?_;refine MI 0 4 (λhb=>?_);have hb:=nP hb;by_cases hok:(1<=c.length/\c.length<=32)/\k.length<=64/\1<=p/\p<=1099511627776/\1<=l.length/\l.length<=32
 ·obtain⟨⟨h0,h00⟩,h1,h2,h3,h4,h5⟩:=hok;repeat' first|refine Z ?_|intro
  rename_i g1;refine y9 (α:=Nat) (λi=>[(1,ptr g1),(3,int i)]) (λi=>[.var g1 99 (.agg 5 [str c,str k,int p,d9 f,.sl 34 (l.map G8) id])])
   (λi=>i<=l.length/\∀ j,j<i->rJ c l j=true) (λi=>l.length-i) 0 zc slr ⟨Nat.zero_le _,λ_ h=>absurd h om⟩ ?_
  rintro i ⟨hi,hall⟩;repeat' first|refine O ?_|intro
  refine w9 (λhlt=>?_) (λhlt=>?_)
  ·have hil:i<l.length:=om
   have hat:=WV (c:=c) hil;repeat' first|refine O ?_|intro
   cases hc:aO ⟨c,l[i].h,l[i].t,l[i].r⟩
   ·rw[hc,Bool.false_and] at hat;repeat' first|refine O ?_|intro
    refine j6 ?_;rw[FL (x:=⟨c,k,p,f,l⟩) hil hat];rfl
   rw[hc,Bool.true_and] at hat;rcases i with _|i
   ·have h0:∀ j,j<1->rJ c l j=true:=λj hj=>by
     obtain rfl:j=0:=by omega
     rw[hat];rfl
    repeat' first|refine O ?_|intro
    refine o9 1 zc ?_ ⟨hil,h0⟩ om;exact u7
   have hil2:i<l.length:=om
   have hg2:l.getD (i+1-1) R8=l[i]:=by simp[List.getD,hil2]
   rw[hg2,dZ om,Bool.false_or] at hat;repeat' first|refine O ?_|intro
   rw[dT (show (0:Int)<((i+1:Nat):Int) by omega)];repeat' first|refine O ?_|intro
   rw[show (((i+1:Nat):Int)-1)=(i:Int) by omega];repeat' first|refine O ?_|intro
   by_cases hq:l[i+1].h<=l[i].h
   ·have hf:fA l[i] l[i+1]=false:=by simp[fA];omega
    rw[dT hq];repeat' first|refine O ?_|intro
    refine j6 ?_;rw[FL (x:=⟨c,k,p,f,l⟩) hil (hat.trans hf)];rfl
   rw[dZ hq];repeat' first|refine O ?_|intro
   rw[show (((i+1:Nat):Int)-1)=(i:Int) by omega];repeat' first|refine O ?_|intro
   refine w9 (λhh=>?_) (λhh=>?_)
   ·have hf:fA l[i] l[i+1]=false:=by simp[fA];omega
    repeat' first|refine O ?_|intro
    refine j6 ?_;rw[FL (x:=⟨c,k,p,f,l⟩) hil (hat.trans hf)];rfl
   have hf:fA l[i] l[i+1]=true:=by simp[fA];omega
   repeat' first|refine O ?_|intro
   refine o9 (i+2) zc ?_ ⟨hil,λj hj=>?_⟩ om
   ·exact u7
   rcases Nat.lt_or_ge j (i+1) with h6|h6
   ·exact hall j h6
   obtain rfl:j=i+1:=by omega
   exact hat.trans hf
  obtain rfl:i=l.length:=by omega
  repeat' first|refine O ?_|intro
  refine j6 ?_;rw[Lb ⟨h1,h2,h3,h4,h5⟩ hall];rfl
 have hmay:aK ⟨c,k,p,f,l⟩=false:=by
  by_cases h0:k.length<=64/\1<=p/\p<=1099511627776/\1<=l.length/\l.length<=32
  ·refine FL (x:=⟨c,k,p,f,l⟩) (i:=0) h0.2.2.2.1 ?_;have hc:aO ⟨c,(l[0]'h0.2.2.2.1).h,(l[0]'h0.2.2.2.1).t,(l[0]'h0.2.2.2.1).r⟩=false:=by
    unfold aO;rw[decide_eq_false_iff_not];rintro⟨e1,e2,_⟩;exact hok ⟨⟨e1,e2⟩,h0⟩
   rw[WV h0.2.2.2.1,hc,Bool.false_and]
  exact Lc h0
 rw[hmay];repeat' first|refine O ?_|intro
 refine X0 (λh=>?_) (λh4=>?_)
 ·exact J7
 repeat' first|refine O ?_|intro
 refine X0 (λh=>?_) (λh5=>?_)
 ·exact J7
 repeat' first|refine O ?_|intro
 refine X0 (λh=>?_) (λh6=>?_)
 ·exact J7
 repeat' first|refine O ?_|intro
 refine X0 (λh=>?_) (λh7=>?_)
 ·exact J7
 repeat' first|refine O ?_|intro
 refine X0 (λh=>?_) (λh8=>?_)
 ·exact J7
 repeat' first|refine O ?_|intro
 refine X0 (λh=>?_) (λh9=>?_)
 ·exact J7
 repeat' first|refine O ?_|intro
 refine uL ?_;exact J7⟩
instance b9A :Ans prog GL 198 [str k,int p,.agg 35 [str c,int h,int t,hA r]] True (.tup [nT (uD k p ⟨c,h,t,r⟩),int (uE k p ⟨c,h,t,r⟩)]):=⟨λ_=>by
 refine ze func198 ntmps198 λ_ hs=>?_;unfold uD uE;cases hm:aK (CE k p ⟨c,h,t,r⟩)
 all_goals
  repeat' first|refine O ?_|intro
  rw[show aK ⟨c,k,p,false,[⟨h,t,r⟩]⟩=_ from hm];repeat' first|refine O ?_|intro
  refine F9 ?_
 ·exact XJ
 exact CL (c:=c) (k:=k) (p:=p) (f:=false) (l:=[⟨h,t,r⟩]) (id:=none) (n:=0)⟩
instance b7v :Ans prog GL 430 [str k,int p,.agg 35 [str c,int h,int t,hA r]] True (.tup [nT (uD k p ⟨c,h,t,r⟩),int (uE k p ⟨c,h,t,r⟩)]):=⟨λ_=>by
 refine ze func430 ntmps430 λ_ hs=>?_;unfold uD uE;cases hm:aK (CE k p ⟨c,h,t,r⟩)
 all_goals
  repeat' first|refine O ?_|intro
  rw[show aK ⟨c,k,p,false,[⟨h,t,r⟩]⟩=_ from hm];repeat' first|refine O ?_|intro
  refine F9 ?_
 ·exact XJ
 exact CL (c:=c) (k:=k) (p:=p) (f:=false) (l:=[⟨h,t,r⟩]) (id:=none) (n:=0)⟩
end

section
variable {s:Sta}{x:Cli}{l:List Sta}
theorem a1X (h:fD x.l s.h=true)(he:x.l.getD (J5 x.l s.h) R8=s):nK x s=x:=by
 unfold nK;rw[if_pos ⟨h,he⟩]
theorem a2b (h:fD x.l s.h=true)(he:x.l.getD (J5 x.l s.h) R8≠s):nK x s=KU x:=by
 unfold nK;rw[if_neg (λhh=>he hh.2),if_pos (.inl h)]
theorem a2a (h:fD x.l s.h=false)(hb:jY x.l s (J5 x.l s.h)=true):nK x s=KU x:=by
 unfold nK;rw[if_neg (by rw[h];simp),if_pos (.inr hb)]
theorem a1Z (h:fD x.l s.h=false)(hb:jY x.l s (J5 x.l s.h)=false):nK x s={ x with l:=CJ x.l s }:=by
 unfold nK;rw[if_neg (by rw[h];simp),if_neg (by rw[h,hb];simp)]
theorem a8x :jY l s 0=(decide (0<l.length) && !fA s (l.getD 0 R8)):=by simp[jY]
theorem a8v {i:Nat}(hi:i<l.length):jY l s (i+1)=(!fA l[i] s || (decide (i+1<l.length) && !fA s (l.getD (i+1) R8))):=by
 have:l.getD (i+1-1) R8=l[i]:=by simp[List.getD,hi]
 unfold jY;rw[this];simp
instance c1u {c k:Bs}{p h t:Int}{f:Bool}{r:Hsh}{xs:List AV}{id:Option Value}[hx:Stas xs l]:Ans prog GL 295 [.agg 5 [str c,str k,int p,d9 f,.sl 34 xs id],.agg 34 [int h,int t,hA r]] (l.length<=1000000) (nT (nK ⟨c,k,p,f,l⟩ ⟨h,t,r⟩)):=⟨λhlen=>by
 have hxo:=hx.out;subst hxo;have hm:(l.map G8).length=l.length:=llm _;have hle:=LY l h;refine ze func295 ntmps295 λ_ hs=>?_;repeat' (first|refine eP ?_|refine K3 ?_|refine M9 ?_|refine J8 ?_|intro _)
 cases his:fD l h
 ·refine GM hs ?_;repeat' (first|refine eP ?_|refine K3 ?_|refine M9 ?_|refine J8 ?_|refine nO ?_|refine lG ?_|refine D6 (λ_=>?_)|intro _)
  rename_i g2 g3 g4;refine IJ (α:=Unit) (λ_=>[(2,ptr g2),(3,ptr g3),(4,ptr g4),(5,int (J5 l h)),(26,d9 (jY l ⟨h,t,r⟩ (J5 l h)))]) (λ_=>[.var g4 99 (.agg 5 [str [],str [],int 0,d9 false,J2]),.var g3 103 (G8 ⟨h,t,r⟩),.var g2 99 (.agg 5 [str c,str k,int p,d9 f,.sl 34 (l.map G8) id])]) ?_ (λ_=>?_)
  ·generalize J5 l h=i at *;rcases i with _|i
   ·rw[a8x];repeat' first|refine O ?_|intro
    by_cases hlt:0<l.length
    ·have hg:l.getD 0 R8=l[0]:=by simp[List.getD,hlt]
     rw[dT (show ((0:Nat):Int)<((l.map G8).length:Int) by omega)];repeat' first|refine O ?_|intro
     exact aZ () ⟨rfl,rfl,rfl,rfl,by rw[dT hlt,hg];rfl,trivial⟩ slr
    rw[dZ (show ¬ ((0:Nat):Int)<((l.map G8).length:Int) by omega)];repeat' first|refine O ?_|intro
    exact aZ () ⟨rfl,rfl,rfl,rfl,by rw[dZ hlt];rfl,trivial⟩ slr
   have hil:i<l.length:=om
   rw[a8v hil];repeat' first|refine O ?_|intro
   rw[dT (show (0:Int)<((i+1:Nat):Int) by omega)];repeat' first|refine O ?_|intro
   rw[show (((i+1:Nat):Int)-1)=(i:Int) by omega];repeat' first|refine O ?_|intro
   cases hf:fA l[i] ⟨h,t,r⟩
   ·repeat' first|refine O ?_|intro
    exact aZ () zc slr
   repeat' first|refine O ?_|intro
   by_cases hlt:i+1<l.length
   ·rw[dT (show ((i+1:Nat):Int)<((l.map G8).length:Int) by omega)];repeat' first|refine O ?_|intro
    have hg:l.getD (i+1) R8=l[i+1]:=by simp[List.getD,hlt]
    exact aZ () ⟨rfl,rfl,rfl,rfl,by rw[dT hlt,hg];rfl,trivial⟩ slr
   rw[dZ (show ¬ ((i+1:Nat):Int)<((l.map G8).length:Int) by omega)];repeat' first|refine O ?_|intro
   exact aZ () ⟨rfl,rfl,rfl,rfl,by rw[dZ hlt];rfl,trivial⟩ slr
  cases hbad:jY l ⟨h,t,r⟩ (J5 l h)
  ·repeat' (first|refine eP ?_|refine K3 ?_|refine M9 ?_|refine J8 ?_|refine nO ?_|refine lG ?_|refine D6 (λ_=>?_)|intro _)
   refine wE [0,1,3,4,5,2,6,7,8] kr rfl hs kr ?_;repeat' (first|refine eP ?_|refine K3 ?_|refine M9 ?_|refine J8 ?_|refine nO ?_|refine lG ?_|refine D6 (λ_=>?_)|intro _)
   have hL:(l.take (J5 l h)++⟨h,t,r⟩::l.drop (J5 l h)).length=l.length+1:=by simp;omega
   have hmap:(l.map G8).take (J5 l h)++G8 ⟨h,t,r⟩::(l.map G8).drop (J5 l h)=(l.take (J5 l h)++⟨h,t,r⟩::l.drop (J5 l h)).map G8:=sm
   have hend:nK ⟨c,k,p,f,l⟩ ⟨h,t,r⟩=⟨c,k,p,f,(l.take (J5 l h)++⟨h,t,r⟩::l.drop (J5 l h)).drop (l.length+1-32)⟩:=a1Z his hbad;rw[hend];apply U2 [];exact rfl;exact rfl;kernel_rfl;kernel_rfl;intro _ hs';refine H6 [] _ (by rw[hs'];exact a7I (xs:=l.map G8) (id:=id) (by rw[llm];omega)) (λu m1 hh=>?_) lpr;rcases hh with⟨hnil,rfl,rfl⟩|⟨g,cap,rfl,rfl,hcap⟩
   ·obtain rfl:l=[]:=by simpa using hnil
    have hx1:([G8 ⟨h,t,r⟩]:List AV).length=1:=rfl;refine j3 (N7 [] [] rfl rfl lpr rfl ?_);apply U2 [];exact rfl;exact rfl;kernel_rfl;kernel_rfl;intro _ hs';refine H6 [] _ (by rw[hs'];exact a4t (x:=G8 ⟨h,t,r⟩) (idv:=none)) (λu m1 hh=>?_) lpr;rcases hh with⟨hnil,rfl,rfl⟩|⟨g,cap,rfl,rfl,hcap⟩
    ·simp at hnil
    refine vZ 68 ?_;refine dF 68 Imp.sl ?_;refine j3 (N7 [] [.tail 103 34 _] rfl rfl lpr rfl ?_);repeat' first|refine O ?_|intro
    refine jC 0 1 ?_;repeat' first|refine O ?_|intro
    refine F9 ?_;exact KP (l:=[⟨h,t,r⟩])
   refine j3 (N7 [] [.buf g 103 34 (l.map G8) cap] rfl rfl lpr rfl ?_);apply U2 [3];exact rfl;exact rfl;kernel_rfl;kernel_rfl;intro _ hs';refine H6 [.buf g 103 34 (l.map G8) cap] [] (by rw[hs'];exact a4s (i:=J5 l h) (x:=G8 ⟨h,t,r⟩) (idv:=none) rfl hcap (by rw[hm];exact hle) (by rw[hm];omega)) (λu m1 hh=>?_) lpr;rw[hmap] at hh;rcases hh with⟨hnil,rfl,rfl⟩|⟨g,cap,rfl,rfl,hcap⟩
   ·simp at hnil
   refine vZ 68 ?_;refine dF 68 Imp.sl ?_;refine j3 (N7 [.tail 103 34 _] [] rfl rfl lpr rfl ?_);have hL2:((l.take (J5 l h)++⟨h,t,r⟩::l.drop (J5 l h)).map G8).length=l.length+1:=by rw[llm,hL]
   repeat' first|refine O ?_|intro
   refine jC (l.length+1-32) (l.length+1) ?_;rw[<- hL2,List.take_length,hL2,<- List.map_drop];repeat' first|refine O ?_|intro
   refine F9 ?_;exact KP
  repeat' first|refine O ?_|intro
  refine F9 ?_;rw[a2a his hbad];exact KP
 have hl:J5 l h<l.length:=by
  rcases Nat.lt_or_ge (J5 l h) l.length with h|h
  ·exact h
  rw[Ap om] at his;cases his
 have hg:l.getD (J5 l h) R8=l[J5 l h]:=by simp[List.getD,hl]
 repeat' first|refine O ?_|intro
 by_cases he:l[J5 l h]=⟨h,t,r⟩
 ·rw[TU,dT he];repeat' first|refine O ?_|intro
  refine F9 ?_;rw[a1X his (hg.trans he)];exact KP
 rw[TU,dZ he];repeat' first|refine O ?_|intro
 refine F9 ?_;rw[a2b his (by rw[hg];exact he)];exact KP⟩
end

section
variable {now:Int}{mac:Hsh}{h:Hdr}{x:Cli}
theorem zX {n:Int}{o:Cli}(h:o=pY):Imp (.tup [.agg 5 [str [],str [],int 0,d9 false,J2],int n]) (.tup [nT o,int n]):=by rw[h];exact XJ
structure CliOk (x:Cli):Prop where
 n:x.l.length<=1000000
 k:x.k.length<=1000000
 t:-4611686018427387904<=(dK x.l).t/\(dK x.l).t<=4611686018427387904
 p:-4611686018427387904<=x.p/\x.p<4611686018427387904
theorem Cn (e:nZ x now=false):gV x h mac now=19/\kN x h mac now=pY:=by
 have:gV x h mac now=19:=by unfold gV;rw[if_pos e]
 exact⟨this,by unfold kN;rw[this];rfl⟩
theorem MV (e:nZ x now=true)(e2:aO h=false\/h.c≠x.c):gV x h mac now=1/\kN x h mac now=pY:=by
 have:gV x h mac now=1:=by unfold gV;rw[if_neg (by rw[e];simp),if_pos e2]
 exact⟨this,by unfold kN;rw[this];rfl⟩
theorem Co (e:nZ x now=true)(e2:aO h=true)(e3:h.c=x.c)(e4:cK x.k h≠mac):gV x h mac now=18/\kN x h mac now=pY:=by
 have:gV x h mac now=18:=by unfold gV;rw[if_neg (by rw[e];simp),if_neg (by rw[e2,e3];simp),if_pos e4]
 exact⟨this,by unfold kN;rw[this];rfl⟩
theorem Cq (e:nZ x now=true)(e2:aO h=true)(e3:h.c=x.c)(e4:cK x.k h=mac):gV x h mac now=0/\kN x h mac now=nK x (jE h):=by
 have:gV x h mac now=0:=by unfold gV;rw[if_neg (by rw[e];simp),if_neg (by rw[e2,e3];simp),if_neg (by rw[e4];simp)]
 exact⟨this,by unfold kN;rw[this];rfl⟩
instance b6j {c k c':Bs}{p h t:Int}{f:Bool}{r:Hsh}{l:List Sta}{xs:List AV}{id:Option Value}[hx:Stas xs l]:Ans prog GL 201 [.agg 5 [str c,str k,int p,d9 f,.sl 34 xs id],.agg 35 [str c',int h,int t,hA r],hA mac,int now] (CliOk ⟨c,k,p,f,l⟩/\h<=9223372036854775807/\t<=9223372036854775807) (.tup [nT (kN ⟨c,k,p,f,l⟩ ⟨c',h,t,r⟩ mac now),int (gV ⟨c,k,p,f,l⟩ ⟨c',h,t,r⟩ mac now)]):=⟨λhpre=>by
 obtain⟨⟨p1,p2,⟨p3,p4⟩,p5,p6⟩,p7,p8⟩:=hpre;dsimp only at p1 p2 p3 p4 p5 p6;have hxo:=hx.out;subst hxo;refine ze func201 ntmps201 λ_ hs=>?_;repeat' first|refine O ?_|intro
 cases ha:nZ ⟨c,k,p,f,l⟩ now
 ·obtain⟨e1,e2⟩:=Cn (h:=⟨c',h,t,r⟩) (mac:=mac) ha;rw[e1];repeat' first|refine O ?_|intro
  refine F9 ?_;exact zX e2
 repeat' first|refine O ?_|intro
 cases hc:aO ⟨c',h,t,r⟩
 ·obtain⟨e1,e2⟩:=MV (mac:=mac) ha (.inl hc);rw[e1];repeat' first|refine O ?_|intro
  refine F9 ?_;exact zX e2
 repeat' first|refine O ?_|intro
 by_cases hcc:c'≠c
 ·obtain⟨e1,e2⟩:=MV (h:=⟨c',h,t,r⟩) (mac:=mac) ha (.inr hcc);rw[e1,dT hcc];repeat' first|refine O ?_|intro
  refine F9 ?_;exact zX e2
 rw[dZ hcc];have hcc:c'=c:=Classical.not_not.1 hcc;repeat' first|refine O ?_|intro
 by_cases hmac:cK k ⟨c',h,t,r⟩≠mac
 ·obtain⟨e1,e2⟩:=Co (x:=⟨c,k,p,f,l⟩) ha hc hcc hmac;rw[e1,dZ (show ¬ cK k ⟨c',h,t,r⟩=mac from hmac)];repeat' first|refine O ?_|intro
  refine F9 ?_;exact zX e2
 have hmac:cK k ⟨c',h,t,r⟩=mac:=Classical.not_not.1 hmac;obtain⟨e1,e2⟩:=Cq (x:=⟨c,k,p,f,l⟩) ha hc hcc hmac;rw[e1,dT hmac];repeat' first|refine O ?_|intro
 refine j6 ?_;rw[e2];rfl⟩
end

section
variable {s:Sta}{l:List Sta}
theorem a5q {i:Nat}{a:List Sta × Bool}(hi:i<l.length)(h:(l.take i).foldl (oF s) (some ([],false))=some a)(hh:jM s l[i]=true):CK l s=none:=by
 have:l.foldl (oF s) (some ([],false))=none:=by
  have e:l=l.take i++l[i]::l.drop (i+1):=by rw[<- List.drop_eq_getElem_cons hi,List.take_append_drop]
  rw[e,List.foldl_append,h,List.foldl_cons,JB,if_pos hh,KV]
 unfold CK;rw[this]
theorem a5p {i:Nat}{acc:List Sta}{put:Bool}(hi:i<l.length)(h:(l.take i).foldl (oF s) (some ([],false))=some (acc,put))(hh:jM s l[i]=false) :
  (l.take (i+1)).foldl (oF s) (some ([],false))=some (if put=false/\s.h<l[i].h then (acc++[s]++[l[i]],true) else (acc++[l[i]],put)):=by
 rw[List.take_succ_eq_append_getElem hi,List.foldl_append,h,List.foldl_cons,List.foldl_nil,JB,if_neg (by rw[hh];simp)];split <;> rfl
theorem a4w {acc:List Sta}{put:Bool}(h:l.foldl (oF s) (some ([],false))=some (acc,put)):CK l s=some (if put=true then acc else acc++[s]):=by
 unfold CK;rw[h];cases put <;> rfl
instance b7c {c k c':Bs}{p h t now:Int}{f:Bool}{r mac:Hsh}{xs:List AV}{id:Option Value}[hx:Stas xs l]:Ans prog GL 426 [.agg 5 [str c,str k,int p,d9 f,.sl 34 xs id],.agg 35 [str c',int h,int t,hA r],hA mac,int now] (CliOk ⟨c,k,p,f,l⟩/\(Rise l/\l.length<=32)/\h<=9223372036854775807/\t<=9223372036854775807) (.tup [nT (kN ⟨c,k,p,f,l⟩ ⟨c',h,t,r⟩ mac now),int (gV ⟨c,k,p,f,l⟩ ⟨c',h,t,r⟩ mac now)]):=⟨λhpre=>by
 obtain⟨⟨p1,p2,⟨p3,p4⟩,p5,p6⟩,⟨hr,h32⟩,p7,p8⟩:=hpre;dsimp only at p1 p2 p3 p4 p5 p6;have hxo:=hx.out;subst hxo;have hm:(l.map G8).length=l.length:=llm _;refine ze func426 ntmps426 λ_ hs=>?_;repeat' first|refine O ?_|intro
 cases ha:nZ ⟨c,k,p,f,l⟩ now
 ·obtain⟨e1,e2⟩:=Cn (h:=⟨c',h,t,r⟩) (mac:=mac) ha;rw[e1];repeat' first|refine O ?_|intro
  refine F9 ?_;exact zX e2
 repeat' first|refine O ?_|intro
 cases hc:aO ⟨c',h,t,r⟩
 ·obtain⟨e1,e2⟩:=MV (mac:=mac) ha (.inl hc);rw[e1];repeat' first|refine O ?_|intro
  refine F9 ?_;exact zX e2
 repeat' first|refine O ?_|intro
 by_cases hcc:c'≠c
 ·obtain⟨e1,e2⟩:=MV (h:=⟨c',h,t,r⟩) (mac:=mac) ha (.inr hcc);rw[e1,dT hcc];repeat' first|refine O ?_|intro
  refine F9 ?_;exact zX e2
 rw[dZ hcc];have hcc:c'=c:=Classical.not_not.1 hcc;repeat' first|refine O ?_|intro
 by_cases hmac:cK k ⟨c',h,t,r⟩≠mac
 ·obtain⟨e1,e2⟩:=Co (x:=⟨c,k,p,f,l⟩) ha hc hcc hmac;rw[e1,dZ (show ¬ cK k ⟨c',h,t,r⟩=mac from hmac)];repeat' first|refine O ?_|intro
  refine F9 ?_;exact zX e2
 have hmac:cK k ⟨c',h,t,r⟩=mac:=Classical.not_not.1 hmac;obtain⟨e1,e2⟩:=Cq (x:=⟨c,k,p,f,l⟩) ha hc hcc hmac;have e3:kN ⟨c,k,p,f,l⟩ ⟨c',h,t,r⟩ mac now=OL ⟨c,k,p,f,l⟩ ⟨h,t,r⟩:=e2.trans (a2k hr h32).symm;rw[e1,e3,dT hmac];clear e1 e2 e3 p3 p4 p5 p6 p7 p8 ha hc hmac;unfold OL;repeat' first|refine O ?_|intro
 cases hfd:vP l h with
 | some o=>
  simp only[Option.getD_some,Option.isSome_some];repeat' first|refine O ?_|intro
  rw[TU (a:=o)];by_cases ho:o=⟨h,t,r⟩
  ·rw[dT ho,if_pos ho];repeat' first|refine O ?_|intro
   refine F9 ?_;exact CL
  rw[dZ ho,if_neg ho];repeat' first|refine O ?_|intro
  refine F9 ?_;exact CL
 | none=>
  simp only[Option.getD_none,Option.isSome_none];repeat' first|refine O ?_|intro
  rename_i g4 g5 g6 g8 hcc0 g12 g13 g15;refine Y4 16 (Imp.nil (k:=34)) ?_;refine P6 (λok w h=>h.full 103 34 none 0) ?_;have hcl0:∀ {put:Bool} {a b:List Sta},(if put=true then a else b).length<=max a.length b.length:=by
   intro put a b;cases put <;> simp <;> omega
  refine y9 (α:=Nat × Value × List Sta × Bool) (λq=>[(4,ptr g4),(8,ptr g8),(12,ptr g12),(15,ptr g15),(16,.sl 34 (q.2.2.1.map G8) (some q.2.1)),(17,d9 q.2.2.2),(18,int q.1)])
   (λq=>[.tail 103 34 q.2.1,.var g15 99 (.agg 5 [str c,str k,int p,d9 true,.sl 34 (l.map G8) id]),.var g12 103 (.agg 34 [int h,int t,hA r]),.var g8 99 (.agg 5 [str [],str [],int 0,d9 false,J2]),.var g4 99 (.agg 5 [str c,str k,int p,d9 f,.sl 34 (l.map G8) id])])
   (λq=>q.1<=l.length/\(l.take q.1).foldl (oF ⟨h,t,r⟩) (some ([],false))=some (q.2.2.1,q.2.2.2)/\q.2.2.1.length<=2*q.1) (λq=>l.length-q.1) (0,.slice none 0 0,[],false) zc ?_ ⟨Nat.zero_le _,rfl,Nat.zero_le _⟩ ?_
  ·exact u7
  rintro⟨i,v,acc,put⟩ ⟨hi,hfo,hal⟩;dsimp only at hi hfo hal ⊢;have hmacc:(acc.map G8).length=acc.length:=llm _;repeat' first|refine O ?_|intro
  refine w9 (λhlt=>?_) (λhlt=>?_)
  ·have hil:i<l.length:=om
   have hnx:=λhh=>a5p hil hfo hh;repeat' first|refine O ?_|intro
   rename_i g19;by_cases hhit:jM ⟨h,t,r⟩ l[i]=true
   ·have hno:=a5q hil hfo hhit;rw[hno];simp[jM] at hhit;rcases hhit with⟨a1,a2⟩|⟨a1,a2⟩
    all_goals
     repeat' first|refine Z ?_|intro
     refine F9 ?_;exact CL (f:=true)
   have hhit:jM ⟨h,t,r⟩ l[i]=false:=by simpa using hhit
   have hnx:=hnx hhit;simp[jM] at hhit;have hone:(acc++[l[i]]).map G8=acc.map G8++[G8 l[i]]:=by simp
   have htwo:(acc++[(⟨h,t,r⟩:Sta)]++[l[i]]).map G8=acc.map G8++[G8 ⟨h,t,r⟩]++[G8 l[i]]:=sm
   cases put
   ·by_cases a1:h<l[i].h
    ·rw[if_pos ⟨rfl,a1⟩] at hnx;repeat' first|refine Z ?_|intro
     refine H7 (λv1=>?_);repeat' first|refine Z ?_|intro
     refine H7 (λv2=>?_);repeat' first|refine Z ?_|intro
     refine X4 16 (v':=.sl 34 ((acc++[(⟨h,t,r⟩:Sta)]++[l[i]]).map G8) (some v2)) (Imp.of_eq (by rw[htwo])) ?_;refine o9 (i+1,v2,acc++[(⟨h,t,r⟩:Sta)]++[l[i]],true) zc ?_ ⟨hil,hnx,by simp;omega⟩ (by dsimp only;omega);exact u7
    rw[if_neg (λhh=>a1 hh.2)] at hnx;by_cases a2:l[i].h<h
    all_goals
     repeat' first|refine Z ?_|intro
     refine H7 (λv2=>?_);repeat' first|refine Z ?_|intro
     refine X4 16 (v':=.sl 34 ((acc++[l[i]]).map G8) (some v2)) (Imp.of_eq (by rw[hone])) ?_;refine o9 (i+1,v2,acc++[l[i]],false) zc ?_ ⟨hil,hnx,by simp;omega⟩ (by dsimp only;omega);exact u7
   rw[if_neg (λhh=>by cases hh.1)] at hnx;by_cases a1:h<l[i].h
   ·repeat' first|refine Z ?_|intro
    refine H7 (λv2=>?_);repeat' first|refine Z ?_|intro
    refine X4 16 (v':=.sl 34 ((acc++[l[i]]).map G8) (some v2)) (Imp.of_eq (by rw[hone])) ?_;refine o9 (i+1,v2,acc++[l[i]],true) zc ?_ ⟨hil,hnx,by simp;omega⟩ (by dsimp only;omega);exact u7
   by_cases a2:l[i].h<h
   all_goals
    repeat' first|refine Z ?_|intro
    refine H7 (λv2=>?_);repeat' first|refine Z ?_|intro
    refine X4 16 (v':=.sl 34 ((acc++[l[i]]).map G8) (some v2)) (Imp.of_eq (by rw[hone])) ?_;refine o9 (i+1,v2,acc++[l[i]],true) zc ?_ ⟨hil,hnx,by simp;omega⟩ (by dsimp only;omega);exact u7
  obtain rfl:i=l.length:=by omega
  rw[List.take_length] at hfo;rw[a4w hfo];repeat' first|refine O ?_|intro
  have hone:(acc++[(⟨h,t,r⟩:Sta)]).map G8=acc.map G8++[G8 ⟨h,t,r⟩]:=sm
  refine IJ (α:=Value) (λv=>[(4,ptr g4),(8,ptr g8),(16,.sl 34 ((if put=true then acc else acc++[(⟨h,t,r⟩:Sta)]).map G8) (some v))]) (λ_=>[.var g8 99 (.agg 5 [str [],str [],int 0,d9 false,J2]),.var g4 99 (.agg 5 [str c,str k,int p,d9 f,.sl 34 (l.map G8) id])]) ?_ (λv=>?_)
  ·cases put
   ·repeat' first|refine O ?_|intro
    refine H7 (λv2=>?_);repeat' first|refine O ?_|intro
    refine aZ v2 ⟨rfl,rfl,by rw[<- hone];rfl,trivial⟩ ?_;exact u7
   repeat' first|refine O ?_|intro
   refine aZ v zc ?_;exact u7
  have hle:(if put=true then acc else acc++[(⟨h,t,r⟩:Sta)]).length<=66:=by
   cases put <;> simp <;> omega
  generalize (if put=true then acc else acc++[(⟨h,t,r⟩:Sta)])=L at *;have hmL:(L.map G8).length=L.length:=llm _;simp only[ZF];repeat' first|refine O ?_|intro
  refine w9 (λh9=>?_) (λh9=>?_)
  ·rw[if_pos (show 32<L.length by omega)];repeat' first|refine O ?_|intro
   refine jC 1 L.length ?_;rw[<- hmL,List.take_length,<- List.map_drop];repeat' first|refine O ?_|intro
   refine F9 ?_;exact CL
  rw[if_neg (show ¬ 32<L.length by omega)];repeat' first|refine O ?_|intro
  refine F9 ?_;exact CL⟩
end

section
variable {s:Bs}
def kZ (s:Bs):Bs:=o8 99 32 s false
def qR (s:Bs):Bool:=F4 99 32 s false
def kY (s:Bs):Bs:=o8 104 8 (kZ s) (qR s)
def qQ (s:Bs):Bool:=N9 104 1099511627776 (kZ s) (qR s)
def fI (s:Bs):Bs:=o8 116 8 (kY s) (qQ s)
def jR (s:Bs):Bool:=N9 116 1099511627776 (kY s) (qQ s)
def EU (s:Bs):Bs:=G9 114 32 (fI s) (jR s)
def BR (s:Bs):Int:=U7 (o8 114 32 (fI s) (jR s)) (F4 114 32 (fI s) (jR s))
def zG (s:Bs):Hdr:=⟨G9 99 32 s false,L9 104 1099511627776 (kZ s) (qR s),L9 116 1099511627776 (kY s) (qQ s),W9 (EU s)⟩
def mF (s:Bs):Bool:=decide ((EU s).length=32)&&(decide (BR s=0)&&aO (zG s))
def SV:Hdr:=⟨[],0,0,E9⟩
def bB (s:Bs):Hdr:=if mF s=true then zG s else SV
def qP (s:Bs):Int:=if mF s=true then 0 else 10
theorem Gq (s:Bs):(kZ s).length<=s.length/\(kY s).length<=s.length/\(fI s).length<=s.length:=by
 have h1:=(aH 99 32 s false).1;have h2:=(aH 104 8 (kZ s) (qR s)).1;have h3:=(aH 116 8 (kY s) (qQ s)).1;unfold fI;unfold kY at *;unfold kZ at *;exact⟨h1,om,om⟩
theorem Hf :o8 99 32 s false=kZ s:=rfl
theorem He :F4 99 32 s false=qR s:=rfl
theorem Hd :o8 104 8 (kZ s) (qR s)=kY s:=rfl
theorem Ha :N9 104 1099511627776 (kZ s) (qR s)=qQ s:=rfl
theorem Gz :o8 116 8 (kY s) (qQ s)=fI s:=rfl
theorem Gy :N9 116 1099511627776 (kY s) (qQ s)=jR s:=rfl
instance b6W :Ans prog GL 182 [str s] (s.length<=1000000000) (.tup [Q7 (bB s),int (qP s)]):=⟨λhl=>by
 obtain⟨l1,l2,l3⟩:=Gq s;have e1:(kZ s).length=(o8 99 32 s false).length:=rfl;have e2:(kY s).length=(o8 104 8 (o8 99 32 s false) (F4 99 32 s false)).length:=rfl;have e3:(fI s).length=(o8 116 8 (o8 104 8 (o8 99 32 s false) (F4 99 32 s false)) (N9 104 1099511627776 (o8 99 32 s false) (F4 99 32 s false))).length:=rfl;refine ze func182 ntmps182 λ_ hs=>?_;repeat' first|refine Yz ?_|intro
 refine H6 (args:=[str s]) [] _ (by rw[hs];exact wH) (λu m1 hh=>?_) lpr;obtain⟨gr,rfl,rfl⟩:=hh;repeat' first|refine Yz ?_|intro
 rw[Hf,He,Hd,Ha,Gz,Gy];have hX:EU s=G9 114 32 (fI s) (jR s):=rfl;have hV:zG s=⟨G9 99 32 s false,L9 104 1099511627776 (kZ s) (qR s),L9 116 1099511627776 (kY s) (qQ s),W9 (G9 114 32 (fI s) (jR s))⟩:=rfl;have hEE:BR s=U7 (o8 114 32 (fI s) (jR s)) (F4 114 32 (fI s) (jR s)):=rfl;by_cases hx:(G9 114 32 (fI s) (jR s)).length=32
 rotate_left
 ·have hk:mF s=false:=by
   unfold mF;rw[hX,dZ hx];rfl
  rw[bB,qP,hk,if_neg hx];exact Z5
 rw[if_pos hx];repeat' first|refine Yz ?_|intro
 by_cases hE:BR s=0
 rotate_left
 ·have hk:mF s=false:=by
   unfold mF;rw[dZ hE,Bool.false_and,Bool.and_false]
  rw[bB,qP,hk];rw[hEE] at hE;exact Z5
 have hk:mF s=aO (zG s):=by
  unfold mF;rw[hX,dT hx,dT hE,Bool.true_and,Bool.true_and]
 rw[bB,qP,hk,hV];rw[hEE] at hE;repeat' first|refine Yz ?_|intro
 cases hc:aO ⟨G9 99 32 s false,L9 104 1099511627776 (kZ s) (qR s),L9 116 1099511627776 (kY s) (qQ s),W9 (G9 114 32 (fI s) (jR s))⟩
 ·exact Z5
 exact Z5⟩
end

instance b7k {s:Bs}:Ans prog GL 267 [str s] (s.length<=1000000000) (.tup [Q7 (bB s),int (qP s)]):=⟨λhl=>by
 obtain⟨l1,l2,l3⟩:=Gq s;have e1:(kZ s).length=(o8 99 32 s false).length:=rfl;have e2:(kY s).length=(o8 104 8 (o8 99 32 s false) (F4 99 32 s false)).length:=rfl;have e3:(fI s).length=(o8 116 8 (o8 104 8 (o8 99 32 s false) (F4 99 32 s false)) (N9 104 1099511627776 (o8 99 32 s false) (F4 99 32 s false))).length:=rfl;refine ze func267 ntmps267 λ_ hs=>?_;repeat' first|refine Yz ?_|intro
 rw[Hf,He,Hd,Ha,Gz,Gy];have hX:EU s=G9 114 32 (fI s) (jR s):=rfl;have hV:zG s=⟨G9 99 32 s false,L9 104 1099511627776 (kZ s) (qR s),L9 116 1099511627776 (kY s) (qQ s),W9 (G9 114 32 (fI s) (jR s))⟩:=rfl;have hEE:BR s=U7 (o8 114 32 (fI s) (jR s)) (F4 114 32 (fI s) (jR s)):=rfl;by_cases hE:BR s=0
 rotate_left
 ·have hk:mF s=false:=by
   unfold mF;rw[dZ hE,Bool.false_and,Bool.and_false]
  rw[bB,qP,hk];rw[hEE] at hE;exact Z5
 by_cases hx:(G9 114 32 (fI s) (jR s)).length=32
 rotate_left
 ·have hk:mF s=false:=by
   unfold mF;rw[hX,dZ hx];rfl
  rw[bB,qP,hk];rw[hEE] at hE;exact Z5
 have hk:mF s=aO (zG s):=by
  unfold mF;rw[hX,dT hx,dT hE,Bool.true_and,Bool.true_and]
 rw[bB,qP,hk,hV];rw[hEE] at hE;repeat' first|refine Yz ?_|intro
 generalize G9 114 32 (fI s) (jR s)=x at *;generalize G9 99 32 s false=C at *;generalize L9 104 1099511627776 (kZ s) (qR s)=H at *;generalize L9 116 1099511627776 (kY s) (qQ s)=T at *;rename_i g2 gr g5;refine y9 (α:=Nat) (λi=>[(2,ptr g2),(5,ptr g5),(6,str x),(7,int i)]) (λi=>[.var g5 42 (.agg 35 [str C,int H,int T,.agg 32 ((iH x i).map A7)]),.var g2 42 (Q7 SV)]) (λi=>i<=32) (λi=>32-i) 0 zc ?_ (Nat.zero_le _) ?_
 focus
  exact u7
 intro i hi;repeat' first|refine Yz ?_|intro
 refine w9 (λhlt=>?_) (λhlt=>?_)
 ·have hil:i<32:=om
  have hix:i<x.length:=om
  repeat' first|refine Yz ?_|intro
  refine vY i ?_ (List.getElem?_eq_getElem hix);repeat' first|refine Yz ?_|intro
  refine O1 i ?_;have hst:=a2c (n:=35) (pre:=[str C,int H,int T]) (post:=[]) (l:=iH x i) (j:=i) (c:=x[i]) (PY hx hi) (by rw[PY hx hi];exact hil) (o:=0+3+i*1) (by simp[AV.size]);rw[XC hx hil] at hst;refine fE (v':=.agg 35 [str C,int H,int T,.agg 32 ((iH x (i+1)).map A7)]) ?_ (hp:=hst);repeat' first|refine Yz ?_|intro
  exact o9 (i+1) zc slr hil om
 obtain rfl:i=32:=by omega
 have hA1:AV.agg 32 ((iH x 32).map A7)=hA (W9 x):=by rw[XD hx,hA,QC hx]
 rw[hA1];repeat' first|refine Yz ?_|intro
 cases hc:aO ⟨C,H,T,W9 x⟩
 ·exact Z5
 exact Z5⟩
end Go.Proofs.Z
