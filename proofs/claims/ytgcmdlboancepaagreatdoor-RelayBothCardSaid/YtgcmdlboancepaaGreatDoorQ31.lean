/- . -/
import Derived.Test.YtgcmdlboancepaaGreatDoorQ30
set_option maxHeartbeats 64000000
namespace Go.Proofs.Z
open Go Go.RowKit Tw Av Go.Proofs.Tryz
section
variable {c d s:Bs}
instance b9g :Ans prog GL 422 [str s] (s.length<=1000000000) (d9 (bD s)):=⟨λhl=>by
 have hlen:=JD s;have hcnt:=List.count_le_length (l:=s) (a:=(47:UInt8));refine ze func422 ntmps422 λ_ hs=>?_;repeat' first|refine O ?_|intro
 have hml:((F5 s).map str).length=(F5 s).length:=llm _;refine y9 (α:=Nat) (λi=>[(0,str s),(3,.sl 1 ((F5 s).map str) none),(4,int i)]) (λi=>[]) (λi=>i<=(F5 s).length/\∀ j,(hj:j<(F5 s).length)->j<i->J6 (F5 s)[j]=true) (λi=>(F5 s).length-i) 0 zc slr ⟨Nat.zero_le _,λ_ _ h=>absurd h om⟩ ?_;rintro i ⟨hi,hall⟩;repeat' first|refine O ?_|intro
 refine w9 (λhlt=>?_) (λhlt=>?_)
 ·have hil:i<(F5 s).length:=om
  have hpl:(F5 s)[i].length<=4611686018427387904:=Nat.le_trans (TW (List.getElem_mem hil)) om;repeat' first|refine O ?_|intro
  cases hb:J6 (F5 s)[i]
  ·repeat' first|refine O ?_|intro
   refine j6 ?_;have:bD s=false:=by
    unfold bD;have:(F5 s).all J6=false:=List.all_eq_false.2 ⟨_,List.getElem_mem hil,by rw[hb];decide⟩;rw[this];simp
   rw[this];rfl
  repeat' first|refine O ?_|intro
  refine o9 (i+1) zc slr ⟨hil,λj hj h=>?_⟩ om;by_cases hj2:j<i
  ·exact hall j hj hj2
  obtain rfl:j=i:=by omega
  exact hb
 obtain rfl:i=(F5 s).length:=by omega
 have ht:(F5 s).all J6=true:=List.all_eq_true.2 λx hx=>by
  obtain⟨j,hj,rfl⟩:=List.getElem_of_mem hx;exact hall j hj hj
 have hd:bD s=(decide (s.length<=200)&&decide ((F5 s).length<=5)):=by
  unfold bD;rw[ht,Bool.true_and]
 rw[hd];repeat' first|refine O ?_|intro
 refine X0 (λh=>?_) (λh=>?_)
 ·repeat' first|refine O ?_|intro
  refine j6 ?_;rw[dT (show (F5 s).length<=5 by omega),Bool.and_true,decide_eq_decide.2 (show s.length<=200↔(s.length:Int)<=200 by omega)];rfl
 repeat' first|refine Z ?_|intro
 refine j6 ?_;rw[dZ (show ¬ (F5 s).length<=5 by omega),Bool.and_false];rfl⟩
theorem a4W :((F5 s).length:Int)-1=(s.count 47:Nat):=by
 have:=JD s;omega
instance b9f :Ans prog GL 424 [str s] (s.length<=1000000000) (int (wR s)):=⟨λhl=>by
 have hlen:=JD s;have hcnt:=List.count_le_length (l:=s) (a:=(47:UInt8));have hml:((F5 s).map str).length=(F5 s).length:=llm _;refine ze func424 ntmps424 λ_ hs=>?_;repeat' first|refine O ?_|intro
 unfold wR;cases hb:bD s
 ·exact J7
 repeat' first|refine O ?_|intro
 refine j6 ?_;show int (((F5 s).map str).length-1)=_;rw[hml,a4W];rfl⟩
instance c1H :Ans prog GL 284 [str s] True (d9 (P9 s)):=⟨λ_=>by
 refine ze func284 ntmps284 λ_ hs=>?_;repeat' first|refine O ?_|intro
 unfold P9;rcases s with _|⟨c,s⟩
 ·exact j4
 repeat' first|refine Z ?_|intro
 refine j6 ?_;rw[decide_eq_decide.2 (show (1<=(c::s).length/\(c::s).length<=64)↔(((c::s).length:Int)<=64) by rw[List.length_cons];omega)];rfl⟩
instance c1N :Ans prog GL 358 [str s] True (d9 (aC s)):=⟨λ_=>by
 refine ze func358 ntmps358 λ_ hs=>?_;repeat' first|refine O ?_|intro
 unfold aC;rcases s with _|⟨c,s⟩
 ·exact j4
 repeat' first|refine Z ?_|intro
 refine j6 ?_;rw[decide_eq_decide.2 (show (1<=(c::s).length/\(c::s).length<=200)↔(((c::s).length:Int)<=200) by rw[List.length_cons];omega)];rfl⟩
instance b9h :Ans prog GL 144 [str s] True (d9 (P9 s)):=⟨λ_=>by
 refine ze func144 ntmps144 λ_ hs=>?_;repeat' first|refine O ?_|intro
 unfold P9;by_cases h:1<=s.length
 ·repeat' first|refine Z ?_|intro
  refine j6 ?_;rw[decide_eq_decide.2 (show (1<=s.length/\s.length<=64)↔((s.length:Int)<=64) by omega)];rfl
 repeat' first|refine Z ?_|intro
 refine j6 ?_;rw[dZ (show ¬ (1<=s.length/\s.length<=64) by omega)];rfl⟩
instance b9i :Ans prog GL 145 [str s] True (d9 (aC s)):=⟨λ_=>by
 refine ze func145 ntmps145 λ_ hs=>?_;repeat' first|refine O ?_|intro
 unfold aC;by_cases h:1<=s.length
 ·repeat' first|refine Z ?_|intro
  refine j6 ?_;rw[decide_eq_decide.2 (show (1<=s.length/\s.length<=200)↔((s.length:Int)<=200) by omega)];rfl
 repeat' first|refine Z ?_|intro
 refine j6 ?_;rw[dZ (show ¬ (1<=s.length/\s.length<=200) by omega)];rfl⟩
instance b9q :Ans prog GL 193 [str s] True (d9 (eG s)):=⟨λ_=>by
 refine ze func193 ntmps193 λ_ hs=>?_;repeat' first|refine O ?_|intro
 unfold eG;cases hb:P9 s
 ·repeat' first|refine Z ?_|intro
  refine j6 ?_;rw[Bool.and_false];rfl
 repeat' first|refine Z ?_|intro
 refine j6 ?_;rw[Bool.and_true,Bool.not_not];rfl⟩
instance b9c :Ans prog GL 423 [str s] (s.length<=4611686018427387904) (d9 (eG s)):=⟨λhl=>by
 refine ze func423 ntmps423 λ_ hs=>?_;repeat' first|refine O ?_|intro
 refine y9 (α:=Nat) (λi=>[(0,str s),(3,int i)]) (λi=>[]) (λi=>i<=s.length/\∀ j,j<i->(s.getD j 0).toNat≠47) (λi=>s.length-i) 0 zc slr ⟨Nat.zero_le _,λ_ h=>absurd h om⟩ ?_;rintro i ⟨hi,hall⟩;repeat' first|refine O ?_|intro
 refine w9 (λhlt=>?_) (λhlt=>?_)
 ·have hil:i<s.length:=om
  repeat' first|refine O ?_|intro
  refine vY i ?_ (List.getElem?_eq_getElem hil);repeat' first|refine O ?_|intro
  refine w9 (λh=>?_) (λh=>?_)
  ·repeat' first|refine O ?_|intro
   refine j6 ?_;unfold eG;rw[WF hil (by rw[getD_in hil];omega)];rfl
  repeat' first|refine O ?_|intro
  refine o9 (i+1) zc slr ⟨hil,λj hj=>?_⟩ om;by_cases hj2:j<i
  ·exact hall j hj2
  obtain rfl:j=i:=by omega
  rw[getD_in hil];omega
 have hy:lH s=true:=PE.2 λj hj=>hall j om;repeat' first|refine O ?_|intro
 refine j6 ?_;unfold eG;rw[hy,Bool.true_and];rfl⟩
instance b9k {a b:Bs}:Ans prog GL 378 [str a,str b] (a.length<=1000000000/\b.length<=1000000000) (str (a++[47]++b)):=⟨λhp=>by
 obtain⟨h1,h2⟩:=hp;refine ze func378 ntmps378 λ_ hs=>?_;exact J7⟩
instance c0G {a:Bs}:Ans prog GL 310 [str a] (a.length<=1000000000) (str (rP a)):=⟨λh1=>by
 refine ze func310 ntmps310 λ_ hs=>?_;exact J7⟩
theorem OM :VS c d=decide (d.take (c++[47]).length=c++[47]):=by
 unfold VS;rw[lla];rfl
instance b6N :Ans prog GL 377 [str c,str d] (c.length<=1000000000/\d.length<=1000000000) (.tup [str (EX c d),d9 (vB c d)]):=⟨λhp=>by
 obtain⟨h1,h2⟩:=hp;have hl:(c++[47]).length=c.length+1:=by rw[lla];rfl
 have hdl:(d.drop (c.length+1)).length<=1000000000:=by rw[List.length_drop];omega
 refine ze func377 ntmps377 λ_ hs=>?_;unfold EX vB;rw[OM];repeat' (first|refine eP ?_|refine K3 ?_|refine M9 ?_|refine J8 ?_|intro _)
 rw[hl];by_cases h:d.take (c.length+1)=c++[47]
 ·rw[if_pos h,dT h,dZ (nni h),Bool.true_and];repeat' first|refine Z ?_|intro
  cases hb:bD (d.drop (c.length+1))
  ·exact j4
  exact j4
 rw[if_neg h,dZ h,dT h,Bool.false_and];exact j4⟩
instance b9e :Ans prog GL 483 [str c,str d] (c.length<=1000000000/\d.length<=1000000000) (.tup [str (EX c d),d9 (vB c d)]):=⟨λhp=>by
 obtain⟨h1,h2⟩:=hp;have hl:(c++[47]).length=c.length+1:=by rw[lla];rfl
 refine ze func483 ntmps483 λ_ hs=>?_;repeat' first|refine O ?_|intro
 unfold EX vB;refine X0 (λhlt=>?_) (λhlt=>?_)
 ·have h:¬ d.take (c++[47]).length=c++[47]:=λe=>by
   have h2:=congrArg List.length e;rw[List.length_take] at h2;omega
  rw[OM,dZ h,Bool.false_and];exact j4
 repeat' first|refine Z ?_|intro
 refine Z4 0 (c++[47]).length ?_;rw[List.drop_zero];repeat' first|refine Z ?_|intro
 refine w9 (λh=>?_) (λh=>?_)
 ·rw[OM,dZ h,Bool.false_and];exact j4
 have h':=Classical.not_not.1 h;have hdl:(d.drop (c.length+1)).length<=1000000000:=by rw[List.length_drop];omega
 rw[OM,dT h',Bool.true_and];repeat' first|refine Z ?_|intro
 refine Z4 (c.length+1) d.length ?_;rw[List.take_length];cases hb:bD (d.drop (c.length+1))
 ·repeat' first|refine Z ?_|intro
  rw[hb];exact j4
 repeat' first|refine Z ?_|intro
 rw[hb];repeat' first|refine Z ?_|intro
 refine Z4 (c.length+1) d.length ?_;rw[List.take_length];exact j4⟩
end

instance b7b {a b:Wd}:Ans prog GL 146 [z8 a,z8 b] True (.tup [z8 (Q5 (a.n+b.n)),d9 (Z6 (a.n+b.n))]):=⟨λ_=>by
 have hla:=dP a.n 32;have hlb:=dP b.n 32;refine ze func146 ntmps146 λ_ hs=>?_;repeat' first|refine O ?_|intro
 rename_i g2 g3 g4;refine Y4 8 (Imp.nil (k:=1)) ?_;refine P6 (λok w h=>h.full 3 1 none 0) ?_;refine y9 (α:=Nat × Value) (λq=>[(4,ptr g4),(6,.sl 1 (dI (K7 a.n 32)) none),(7,.sl 1 (dI (K7 b.n 32)) none),(8,.sl 1 (dI (K7 (a.n+b.n) q.1)) (some q.2)),(9,int (bF a.n b.n q.1)),(10,int q.1)]) (λq=>[.tail 3 1 q.2,.var g4 45 (Y6 0)]) (λq=>q.1<=32) (λq=>32-q.1) (0,.slice none 0 0) ⟨rfl,rfl,rfl,rfl,?_,rfl,trivial⟩ zd (Nat.zero_le _) ?_
 ·rw[Sg];rfl
 rintro⟨i,v⟩ hi;dsimp only at hi ⊢;have hm:(dI (K7 (a.n+b.n) i)).length=i:=by rw[LB,dP]
 have hm2:=dP (a.n+b.n) i;have c1:=(II a.n b.n i).1;repeat' first|refine O ?_|intro
 refine w9 (λhlt=>?_) (λhlt=>?_)
 ·have hka:i<(K7 a.n 32).length:=om
  have hkb:i<(K7 b.n 32).length:=om
  have ea:=CZ hka;have eb:=CZ hkb;have da:=yG a.n i;have db:=yG b.n i;have e1:True->(((K7 a.n 32)[i].toNat:Int)+((K7 b.n 32)[i].toNat:Int)+(bF a.n b.n i:Int))%256=((dg (a.n+b.n) i:Nat):Int):=λ_=>by
   obtain⟨c1,c2,c3⟩:=II a.n b.n i;omega
  have e2:True->(((K7 a.n 32)[i].toNat:Int)+((K7 b.n 32)[i].toNat:Int)+(bF a.n b.n i:Int)) / 256=((bF a.n b.n (i+1):Nat):Int):=λ_=>by
   obtain⟨c1,c2,c3⟩:=II a.n b.n i;omega
  repeat' first|refine O ?_|intro
  rw[e1 trivial];repeat' first|refine O ?_|intro
  refine H7 (λv'=>?_);repeat' first|refine O ?_|intro
  rw[e2 trivial,<- YY];refine o9 (i+1,v') zc ?_ (by dsimp only;omega) (by dsimp only;omega);exact u7
 obtain rfl:i=32:=by omega
 have hall:=b0x a b;generalize bF a.n b.n 32=c at *;have e3:dI (K7 (a.n+b.n) 32)++[int (c:Int)]=dI (K7 (a.n+b.n) 32++[UInt8.ofNat c]):=by
  have h1:(UInt8.ofNat c).toNat=c:=by
   rw[UInt8.toNat_ofNat'];exact Nat.mod_eq_of_lt om
  rw[Rx,h1]
 have hlen:(K7 (a.n+b.n) 32++[UInt8.ofNat c]).length=32\/(K7 (a.n+b.n) 32++[UInt8.ofNat c]).length=33:=.inr (by rw[lla,dP];rfl);generalize K7 (a.n+b.n) 32=D at *;generalize hX:D++[UInt8.ofNat c]=X at *;repeat' first|refine O ?_|intro
 refine H7 (λv'=>?_);rw[e3];repeat' first|refine O ?_|intro
 refine j6 ?_;rw[hall];rfl⟩
instance b6Y {a b:Wd}:Ans prog GL 461 [z8 a,z8 b] True (.tup [z8 (Q5 (a.n-b.n)),d9 (decide (b.n<=a.n))]):=⟨λ_=>by
 have hla:=dP a.n 32;have hlb:=dP b.n 32;by_cases hle:b.n<=a.n
 ·have hc:wT a b=0\/wT a b=1:=by
   unfold wT;rw[if_neg om];split
   ·exact .inr rfl
   exact .inl rfl
  have hnn:0<=wT a b:=om
  obtain⟨d,hd⟩:∃ d,a.n=d+b.n:=⟨a.n-b.n,om⟩;rw[dT hle,show a.n-b.n=d by omega];have hdl:d<115792089237316195423570985008687907853269984665640564039457584007913129639936:=Nat.lt_of_le_of_lt om a.lt;refine ze func461 ntmps461 λ_ hs=>?_;repeat' first|refine Z ?_|intro
  rename_i g2 g3 g4;refine Y4 8 (Imp.nil (k:=1)) ?_;refine P6 (λok w h=>h.full 3 1 none 0) ?_;refine y9 (α:=Nat × Value) (λq=>[(4,ptr g4),(6,.sl 1 (dI (K7 a.n 32)) none),(7,.sl 1 (dI (K7 b.n 32)) none),(8,.sl 1 (dI (K7 d q.1)) (some q.2)),(9,int (bF d b.n q.1)),(10,int q.1)]) (λq=>[.tail 3 1 q.2,.var g4 45 (Y6 0)]) (λq=>q.1<=32) (λq=>32-q.1) (0,.slice none 0 0) ⟨rfl,rfl,rfl,rfl,?_,rfl,trivial⟩ zd (Nat.zero_le _) ?_
  ·rw[Sg];rfl
  rintro⟨i,v⟩ hi;dsimp only at hi ⊢;have hm:(dI (K7 d i)).length=i:=by rw[LB,dP]
  have hm2:=dP d i;have c1:=(II d b.n i).1;repeat' first|refine O ?_|intro
  refine w9 (λhlt=>?_) (λhlt=>?_)
  ·have hka:i<(K7 a.n 32).length:=om
   have hkb:i<(K7 b.n 32).length:=om
   have ea:=CZ hka;have eb:=CZ hkb;have da:=yG a.n i;have db:=yG b.n i;have dd:=yG d i;obtain⟨z,hz,hzz⟩:=a0k hd i;have ez:(((K7 a.n 32)[i].toNat:Int)-((K7 b.n 32)[i].toNat:Int)-(bF d b.n i:Int))=z:=by omega
   have e1:=YY (n:=d) (k:=i);generalize dg d i=D at *;have hzb:-257<=z/\z<=256:=by omega
   repeat' first|refine O ?_|intro
   rw[ez];clear hd hz ez ea eb da db;rcases hzz with⟨z1,z2,z3⟩|⟨z1,z2,z3⟩
   ·repeat' first|refine Z ?_|intro
    refine H7 (λv'=>?_);repeat' first|refine O ?_|intro
    rw[z2,<- e1];refine X4 9 (v:=int 1) (v':=int (bF d b.n (i+1))) (Imp.of_eq (by rw[z3];rfl)) ?_;refine o9 (i+1,v') zc ?_ (by dsimp only;omega) (by dsimp only;omega);exact u7
   repeat' first|refine Z ?_|intro
   refine H7 (λv'=>?_);repeat' first|refine O ?_|intro
   rw[z2,<- e1];refine X4 9 (v:=int 0) (v':=int (bF d b.n (i+1))) (Imp.of_eq (by rw[z3];rfl)) ?_;refine o9 (i+1,v') zc ?_ (by dsimp only;omega) (by dsimp only;omega);exact u7
  obtain rfl:i=32:=by omega
  have hlen:(K7 d 32).length=32\/(K7 d 32).length=33:=.inl (dP d 32);have hall:=a0l hdl;generalize K7 d 32=X at *;repeat' first|refine O ?_|intro
  refine j6 ?_;rw[hall];rw[show Z6 d=true from dT hdl];rfl
 have hneg:wT a b=-1:=by
  unfold wT;rw[if_pos om]
 rw[dZ hle,show a.n-b.n=0 by omega];refine ze func461 ntmps461 λ_ hs=>?_;repeat' first|refine O ?_|intro
 rw[hneg];exact j4⟩

section
variable {d f g i k s:Bs}{a:Wd}{h q t:Int}
theorem Df (c:Int)(n:Int):(D7 c n).length<=16777219:=(inferInstance:LenLe (D7 c n) 16777219).out
instance c0g :Ans prog GL 180 [str k,str i] (k.length<=1000000000) (str (I9 k i)):=⟨λh=>by
 refine ze func180 ntmps180 λ_ hs=>?_;have hl:=wG 105 i;exact J7⟩
instance c0d {n:Int}:Ans prog GL 175 [str k,str i,int n] (k.length<=1000000000/\n<=9223372036854775807) (str (F6 k i n)):=⟨λh=>by
 obtain⟨h1,h2⟩:=h;have hl:=wG 105 i;have hl2:(I9 k i).length<=2000000000:=by unfold I9;rw[lla];omega
 have hl3:=Df 113 n;refine ze func175 ntmps175 λ_ hs=>?_;exact J7⟩
instance c0l :Ans prog GL 92 [str i] True (str (I9 [67] i)):=⟨λ_=>by
 refine ze func92 ntmps92 λ_ hs=>?_;exact J7⟩
instance c0k :Ans prog GL 204 [str i] True (str (I9 [75] i)):=⟨λ_=>by
 refine ze func204 ntmps204 λ_ hs=>?_;exact J7⟩
instance c0m :Ans prog GL 207 [str i] True (str (I9 [72] i)):=⟨λ_=>by
 refine ze func207 ntmps207 λ_ hs=>?_;exact J7⟩
instance c0i :Ans prog GL 214 [str i] True (str (I9 [78] i)):=⟨λ_=>by
 refine ze func214 ntmps214 λ_ hs=>?_;exact J7⟩
instance c0e {n:Int}:Ans prog GL 87 [str i,int n] (n<=9223372036854775807) (str (F6 [80] i n)):=⟨λh=>by
 refine ze func87 ntmps87 λ_ hs=>?_;exact J7⟩
instance c0j {n:Int}:Ans prog GL 84 [str i,int n] (n<=9223372036854775807) (str (F6 [71] i n)):=⟨λh=>by
 refine ze func84 ntmps84 λ_ hs=>?_;exact J7⟩
instance c0h {n:Int}:Ans prog GL 215 [int n] (n<=9223372036854775807) (str (D7 110 n)):=⟨λh=>by
 refine ze func215 ntmps215 λ_ hs=>?_;exact J7⟩
theorem Ht {b:Bool}(h:U7 s b≠0):U7 s b=10:=by
 unfold U7 at h ⊢;split at h <;> simp_all
instance c0f :Ans prog GL 302 [str s] (s.length<=1000000000) (.tup [int (zW s),int (vM s)]):=⟨λhl=>by
 refine ze func302 ntmps302 λ_ hs=>?_;repeat' first|refine O ?_|intro
 refine H6 (args:=[str s]) [] _ (by rw[hs];exact wH) (λu m1 hh=>?_) lpr;obtain⟨gr,rfl,rfl⟩:=hh;repeat' first|refine O ?_|intro
 refine w9 (λh=>?_) (λh=>?_)
 ·repeat' first|refine O ?_|intro
  refine j6 ?_;have h2:vM s=10:=Ht h;unfold zW;rw[h2];rfl
 repeat' first|refine O ?_|intro
 refine j6 ?_;have h1:vM s=0:=Classical.not_not.1 h;unfold zW;rw[h1];rfl⟩
instance b8Z :Ans prog GL 169 [str k,str i] (k.length<=1000000000) (str (I9 k i)):=⟨λh=>by
 have hl:=wG 105 i;refine ze func169 ntmps169 λ_ hs=>?_;exact J7⟩
instance b8X {n:Int}:Ans prog GL 77 [str k,str i,int n] (k.length<=1000000000/\n<=9223372036854775807) (str (F6 k i n)):=⟨λh=>by
 obtain⟨h1,h2⟩:=h;have hl:=wG 105 i;have hl2:(I9 k i).length<=2000000000:=by unfold I9;rw[lla];omega
 have hl3:=Df 113 n;refine ze func77 ntmps77 λ_ hs=>?_;exact J7⟩
instance b8Y :Ans prog GL 468 [str s] (s.length<=1000000000) (.tup [int (zW s),int (vM s)]):=⟨λhl=>by
 refine ze func468 ntmps468 λ_ hs=>?_;repeat' first|refine O ?_|intro
 refine w9 (λh=>?_) (λh=>?_)
 ·repeat' first|refine O ?_|intro
  refine j6 ?_;have h2:vM s=10:=Ht h;unfold zW;rw[h2];rfl
 repeat' first|refine O ?_|intro
 refine j6 ?_;have h1:vM s=0:=Classical.not_not.1 h;unfold zW;rw[h1];rfl⟩
theorem within {n l:Int}:Ans prog GL 303 [int n,int l] True (d9 (decide (l<=n/\n<=1099511627776))):=⟨λ_=>by
 refine ze func303 ntmps303 λ_ hs=>?_;repeat' first|refine O ?_|intro
 refine X0 (λh=>?_) (λh=>?_)
 ·repeat' first|refine O ?_|intro
  refine j6 ?_;rw[decide_eq_decide.2 (show (l<=n/\n<=1099511627776)↔(n<=1099511627776) by omega)];rfl
 repeat' first|refine O ?_|intro
 refine j6 ?_;rw[dZ (show ¬ (l<=n/\n<=1099511627776) by omega)];rfl⟩
instance {n l:Int}:Ans prog GL 303 [int n,int l] True (d9 (decide (l<=n/\n<=1099511627776))):=within
def iL (x:Pkt):Int:=if X3 x=true then 0 else 1
theorem ZM {x:Pkt}(h:PD x=false\/KG x=false\/LD x=false):iL x=1:=by
 unfold iL X3;rcases h with h|h|h <;> rw[h] <;> simp
theorem a7P {x:Pkt}(h1:PD x=true)(h2:KG x=true)(h3:LD x=true):iL x=0:=by
 unfold iL X3;rw[h1,h2,h3];rfl
theorem zQ (e:¬ (1<=q/\q<=1099511627776)\/¬ (0<=h/\h<=1099511627776)\/¬ (0<=t/\t<=1099511627776)\/(h=0/\t=0)):iL ⟨q,s,k,d,a,f,g,h,t⟩=1:=ZM (.inl (dZ (λe2=>by simp only at e2;omega)))
theorem FI (e:J6 s=false\/J6 k=false\/bD d=false):iL ⟨q,s,k,d,a,f,g,h,t⟩=1:=ZM (.inr (.inl (by
 unfold KG;rcases e with e|e|e <;> simp[e])))
theorem GQ (e:a.n=0\/eG f=false\/eG g=false):iL ⟨q,s,k,d,a,f,g,h,t⟩=1:=ZM (.inr (.inr (by
 unfold LD;rcases e with e|e|e <;> simp[e])))
theorem ZN (h1:1<=q/\q<=1099511627776)(h2:0<=h/\h<=1099511627776)(h3:0<=t/\t<=1099511627776)(h4:¬ (h=0/\t=0))(p1:J6 s=true)(p2:J6 k=true)(p3:bD d=true)(z:¬ a.n=0)(c1:eG f=true)(c2:eG g=true):iL ⟨q,s,k,d,a,f,g,h,t⟩=0:=
 a7P (dT (by simp only;omega)) (by unfold KG;simp[p1,p2,p3]) (by unfold LD;simp[z,c1,c2])
instance b9t :Ans prog GL 211 [.agg 12 [int q,str s,str k,.agg 7 [str d,z8 a,str f,str g],int h,int t]] (d.length<=1000000000) (int (iL ⟨q,s,k,d,a,f,g,h,t⟩)):=⟨λhd=>by
 refine ze func211 ntmps211 λ_ hs=>?_;by_cases h1:1<=q/\q<=1099511627776
 rotate_left
 ·repeat' first|refine Z ?_|intro
  refine j6 ?_;rw[zQ (.inl h1)];rfl
 by_cases h2:0<=h/\h<=1099511627776
 rotate_left
 ·repeat' first|refine Z ?_|intro
  refine j6 ?_;rw[zQ (.inr (.inl h2))];rfl
 by_cases h3:0<=t/\t<=1099511627776
 rotate_left
 ·repeat' first|refine Z ?_|intro
  refine j6 ?_;rw[zQ (.inr (.inr (.inl h3)))];rfl
 by_cases h4:h=0/\t=0
 ·repeat' first|refine Z ?_|intro
  refine j6 ?_;rw[zQ (.inr (.inr (.inr h4)))];rfl
 repeat' first|refine Z ?_|intro
 by_cases h5:h=0
 all_goals
  repeat' first|refine Z ?_|intro
  cases p1:J6 s
  focus
   repeat' first|refine Z ?_|intro
   refine j6 ?_;rw[FI (.inl p1)];rfl
  repeat' first|refine Z ?_|intro
  cases p2:J6 k
  focus
   repeat' first|refine Z ?_|intro
   refine j6 ?_;rw[FI (.inr (.inl p2))];rfl
  repeat' first|refine Z ?_|intro
  cases p3:bD d
  focus
   repeat' first|refine Z ?_|intro
   refine j6 ?_;rw[FI (.inr (.inr p3))];rfl
  repeat' first|refine Z ?_|intro
  by_cases z:a.n=0
  focus
   repeat' first|refine Z ?_|intro
   refine j6 ?_;rw[GQ (.inl z)];rfl
  repeat' first|refine Z ?_|intro
  cases c1:eG f
  focus
   repeat' first|refine Z ?_|intro
   refine j6 ?_;rw[GQ (.inr (.inl c1))];rfl
  repeat' first|refine Z ?_|intro
  cases c2:eG g
  focus
   repeat' first|refine Z ?_|intro
   refine j6 ?_;rw[GQ (.inr (.inr c2))];rfl
  repeat' first|refine Z ?_|intro
  refine j6 ?_;rw[ZN h1 h2 h3 h4 p1 p2 p3 z c1 c2];rfl⟩
instance b9d :Ans prog GL 439 [.agg 12 [int q,str s,str k,.agg 7 [str d,z8 a,str f,str g],int h,int t]] (s.length<=1000000000/\k.length<=1000000000/\d.length<=1000000000/\f.length<=1000000000/\g.length<=1000000000) (int (iL ⟨q,s,k,d,a,f,g,h,t⟩)):=⟨λhd=>by
 obtain⟨l1,l2,l3,l4,l5⟩:=hd;refine ze func439 ntmps439 λ_ hs=>?_;repeat' first|refine Z ?_|intro
 cases p1:J6 s
 focus
  repeat' first|refine Z ?_|intro
  refine j6 ?_;rw[FI (.inl p1)];rfl
 repeat' first|refine Z ?_|intro
 cases p2:J6 k
 focus
  repeat' first|refine Z ?_|intro
  refine j6 ?_;rw[FI (.inr (.inl p2))];rfl
 repeat' first|refine Z ?_|intro
 cases p3:bD d
 focus
  repeat' first|refine Z ?_|intro
  refine j6 ?_;rw[FI (.inr (.inr p3))];rfl
 repeat' first|refine Z ?_|intro
 cases c1:eG f
 focus
  repeat' first|refine Z ?_|intro
  refine j6 ?_;rw[GQ (.inr (.inl c1))];rfl
 repeat' first|refine Z ?_|intro
 cases c2:eG g
 focus
  repeat' first|refine Z ?_|intro
  refine j6 ?_;rw[GQ (.inr (.inr c2))];rfl
 repeat' first|refine Z ?_|intro
 rw[EE];by_cases z:a.n=0
 focus
  repeat' first|refine Z ?_|intro
  refine j6 ?_;rw[GQ (.inl z)];rfl
 by_cases h1:1<=q/\q<=1099511627776
 rotate_left
 focus
  by_cases h0:q<1
  all_goals
   repeat' first|refine Z ?_|intro
   refine j6 ?_;rw[zQ (.inl h1)];rfl
 by_cases h2:0<=h/\h<=1099511627776
 rotate_left
 focus
  by_cases h0:h<0
  all_goals
   repeat' first|refine Z ?_|intro
   refine j6 ?_;rw[zQ (.inr (.inl h2))];rfl
 by_cases h3:0<=t/\t<=1099511627776
 rotate_left
 focus
  by_cases h0:t<0
  all_goals
   repeat' first|refine Z ?_|intro
   refine j6 ?_;rw[zQ (.inr (.inr (.inl h3)))];rfl
 by_cases h4:h=0
 focus
  by_cases h5:t=0
  focus
   repeat' first|refine Z ?_|intro
   refine j6 ?_;rw[zQ (.inr (.inr (.inr ⟨h4,h5⟩)))];rfl
  repeat' first|refine Z ?_|intro
  refine j6 ?_;rw[ZN h1 h2 h3 (λe=>h5 e.2) p1 p2 p3 z c1 c2];rfl
 repeat' first|refine Z ?_|intro
 refine j6 ?_;rw[ZN h1 h2 h3 (λe=>h4 e.1) p1 p2 p3 z c1 c2];rfl⟩
end

section
variable {h q t:Int}{d f g k s:Bs}{a:Wd}
instance {x:Pkt}:LenLe (JY x) 150994971:=by unfold JY;infer_instance
instance {n:Nat}:LenLe (bT n) 32:=⟨Nat.le_of_eq (DT n)⟩
instance b9l :Ans prog GL 312 [.agg 12 [int q,str s,str k,.agg 7 [str d,z8 a,str f,str g],int h,int t]] (q<=9223372036854775807/\h<=9223372036854775807/\t<=9223372036854775807) (str (JY ⟨q,s,k,d,a,f,g,h,t⟩)):=⟨λhp=>by
 obtain⟨h1,h2,h3⟩:=hp;refine ze func312 ntmps312 λ_ hs=>?_;exact J7⟩
instance b7m :Ans prog GL 471 [.agg 12 [int q,str s,str k,.agg 7 [str d,z8 a,str f,str g],int h,int t]] (q<=9223372036854775807/\h<=9223372036854775807/\t<=9223372036854775807) (str (JY ⟨q,s,k,d,a,f,g,h,t⟩)):=⟨λhp=>by
 obtain⟨h1,h2,h3⟩:=hp;refine ze func471 ntmps471 λ_ hs=>?_;exact J7⟩
theorem Kg (a b:Bs):uA [a,b]=bH (a++b):=by
 unfold uA;simp
instance c0T :Ans prog GL 213 [.agg 12 [int q,str s,str k,.agg 7 [str d,z8 a,str f,str g],int h,int t]] (q<=9223372036854775807/\h<=9223372036854775807/\t<=9223372036854775807) (str (aM ⟨q,s,k,d,a,f,g,h,t⟩)):=⟨λhp=>by
 refine ze func213 ntmps213 λ_ hs=>?_;repeat' first|refine O ?_|intro
 refine j6 ?_;rw[Kg];rfl⟩
instance b7O :Ans prog GL 441 [.agg 12 [int q,str s,str k,.agg 7 [str d,z8 a,str f,str g],int h,int t]] (q<=9223372036854775807/\h<=9223372036854775807/\t<=9223372036854775807) (str (aM ⟨q,s,k,d,a,f,g,h,t⟩)):=⟨λhp=>by
 refine ze func441 ntmps441 λ_ hs=>?_;exact J7⟩
instance b6U {a:Bs}:Ans prog GL 221 [str a] (a.length<=1000000000) (str (xP a)):=⟨λhl=>by
 haveI:LenLe a 1000000000:=⟨hl⟩
 refine ze func221 ntmps221 λ_ hs=>?_;repeat' first|refine O ?_|intro
 refine j6 ?_;rw[Kg];rfl⟩
instance b7j {a:Bs}:Ans prog GL 444 [str a] (a.length<=1000000000) (str (xP a)):=⟨λhl=>by
 haveI:LenLe a 1000000000:=⟨hl⟩
 refine ze func444 ntmps444 λ_ hs=>?_;exact J7⟩
instance c0L:Ans prog GL 218 [] True (str [43]):=⟨λ_=>by
 refine ze func218 ntmps218 λ_ hs=>?_;exact J7⟩
instance c0F {e:Int}:Ans prog GL 220 [int e] (0<=e/\e<256) (str (CS e)):=⟨λhe=>by
 obtain⟨n,rfl⟩:=Int.eq_ofNat_of_zero_le he.1;refine ze func220 ntmps220 λ_ hs=>?_;repeat' first|refine O ?_|intro
 refine j6 ?_;rw[BK];rfl⟩
instance b7L {e:Int}:Ans prog GL 443 [int e] (0<=e/\e<256) (str (CS e)):=⟨λhe=>by
 obtain⟨n,rfl⟩:=Int.eq_ofNat_of_zero_le he.1;refine ze func443 ntmps443 λ_ hs=>?_;repeat' first|refine O ?_|intro
 refine j6 ?_;rw[BK];rfl⟩
theorem FT (x:Pkt)(h t:Int):V9 x h t=(decide (x.h≠0/\x.h<=h) || decide (x.t≠0/\x.t<=t)):=by
 unfold V9;rw[Bool.decide_or]
instance b7C {h' t':Int}:Ans prog GL 78 [.agg 12 [int q,str s,str k,.agg 7 [str d,z8 a,str f,str g],int h,int t],int h',int t'] True (d9 (V9 ⟨q,s,k,d,a,f,g,h,t⟩ h' t')):=⟨λ_=>by
 refine ze func78 ntmps78 λ_ hs=>?_;by_cases h1:h=0
 ·have e1:¬ (h≠0/\h<=h'):=λe=>e.1 h1;rw[FT,dZ e1,Bool.false_or];by_cases h2:t=0
  ·have e2:¬ (t≠0/\t<=t'):=λe=>e.1 h2;rw[dZ e2];exact j4
  rw[decide_eq_decide.2 (show (t≠0/\t<=t')↔t<=t' from ⟨λe=>e.2,λe=>⟨h2,e⟩⟩)];exact j4
 by_cases h3:h<=h'
 ·rw[FT,dT (show h≠0/\h<=h' from ⟨h1,h3⟩),Bool.true_or];exact j4
 rw[FT,dZ (show ¬ (h≠0/\h<=h') from λe=>h3 e.2),Bool.false_or];by_cases h2:t=0
 ·have e2:¬ (t≠0/\t<=t'):=λe=>e.1 h2;rw[dZ e2];exact j4
 rw[decide_eq_decide.2 (show (t≠0/\t<=t')↔t<=t' from ⟨λe=>e.2,λe=>⟨h2,e⟩⟩)];exact j4⟩
instance b9M {h' t':Int}:Ans prog GL 85 [.agg 12 [int q,str s,str k,.agg 7 [str d,z8 a,str f,str g],int h,int t],int h',int t'] True (d9 (V9 ⟨q,s,k,d,a,f,g,h,t⟩ h' t')):=⟨λ_=>by
 refine ze func85 ntmps85 λ_ hs=>?_;repeat' first|refine O ?_|intro
 refine y9 (α:=Nat) (λi=>[(20,.agg 4 [.agg 2 [int h,int h'],.agg 2 [int t,int t']]),(21,int i),(8,d9 false)]) (λi=>[]) (λi=>i<=2/\(1<=i->¬ (h≠0/\h<=h'))/\(2<=i->¬ (t≠0/\t<=t'))) (λi=>2-i) 0 zc (List.nil_sublist _) ⟨dc,λh=>absurd h dc,λh=>absurd h dc⟩ ?_;rintro i ⟨hi,f1,f2⟩;rcases i with _|_|_|i
 ·repeat' first|refine Z ?_|intro
  refine MC (ps:=[.agg 2 [int h,int h'],.agg 2 [int t,int t']]) (u:=.agg 2 [int h,int h']) 0 ?_ rfl dc rfl (by intro p hp;simp at hp;rcases hp with rfl|rfl <;> rfl) rfl;by_cases h1:h=0
  ·repeat' first|refine Z ?_|intro
   refine o9 1 zc (List.nil_sublist _) ⟨dc,λ_ e=>e.1 h1,λh=>absurd h dc⟩ dc
  by_cases h2:h<=h'
  ·rw[FT,dT (show h≠0/\h<=h' from ⟨h1,h2⟩),Bool.true_or];repeat' first|refine Z ?_|intro
   refine j6 ?_;rw[dT h2];rfl
  repeat' first|refine Z ?_|intro
  rw[dZ h2];refine o9 1 zc (List.nil_sublist _) ⟨dc,λ_ e=>h2 e.2,λh=>absurd h dc⟩ dc
 ·repeat' first|refine Z ?_|intro
  refine MC (ps:=[.agg 2 [int h,int h'],.agg 2 [int t,int t']]) (u:=.agg 2 [int t,int t']) 1 ?_ rfl dc rfl (by intro p hp;simp at hp;rcases hp with rfl|rfl <;> rfl) rfl;by_cases h1:t=0
  ·repeat' first|refine Z ?_|intro
   refine o9 2 zc (List.nil_sublist _) ⟨dc,λ_=>f1 dc,λ_ e=>e.1 h1⟩ dc
  by_cases h2:t<=t'
  ·rw[FT,dT (show t≠0/\t<=t' from ⟨h1,h2⟩),Bool.or_true];repeat' first|refine Z ?_|intro
   refine j6 ?_;rw[dT h2];rfl
  repeat' first|refine Z ?_|intro
  rw[dZ h2];refine o9 2 zc (List.nil_sublist _) ⟨dc,λ_=>f1 dc,λ_ e=>h2 e.2⟩ dc
 ·have e1:=f1 dc;have e2:=f2 dc;rw[FT,dZ e1,dZ e2];exact j4
 omega⟩
theorem SE (h1:s≠[43])(h2:∀ c,s=[45,c]->c=0):wD s=false/\yP s=0:=by
 unfold wD yP
 constructor
 ·split
  ·exact absurd rfl h1
  ·rename_i c;rw[h2 c rfl];rfl
  rfl
 split
 ·rename_i c;rw[h2 c rfl];rfl
 rfl
theorem Xk {c:UInt8}(h:c≠0):wD [45,c]=true/\yP [45,c]=c.toNat:=⟨dT h,rfl⟩
instance b6O :Ans prog GL 222 [str s] True (.tup [int (yP s),d9 (wD s)]):=⟨λ_=>by
 refine ze func222 ntmps222 λ_ hs=>?_;by_cases h1:s=[43]
 ·subst h1;exact j4
 by_cases h2:∃ b c,s=[b,c]
 ·obtain⟨b,c,rfl⟩:=h2;have h2:([b,c]:Bs).length=2:=rfl;have hcb:=c.toNat_lt;have hc0:c=0↔c.toNat=0:=⟨λe=>by rw[e];rfl,λe=>UInt8.toNat_inj.1 e⟩;by_cases hb:b.toNat=45
  ·obtain rfl:b=45:=UInt8.toNat_inj.1 hb;by_cases hc:c.toNat=0
   ·obtain⟨e1,e2⟩:=SE h1 (λd e=>by injection e with _ e;injection e with e _;rw[<- e];exact hc0.2 hc);rw[e1,e2];exact Z5
   obtain⟨e1,e2⟩:=Xk (λe=>hc (hc0.1 e));rw[e1,e2];exact Z5
  obtain⟨e1,e2⟩:=SE h1 (λd e=>absurd (by injection e with e _;rw[e];rfl) hb);rw[e1,e2];exact Z5
 have hl:s.length≠2:=λe=>h2 (by
  match s,e with
  | [b,c],_=>exact⟨b,c,rfl⟩)
 obtain⟨e1,e2⟩:=SE h1 (λc e=>absurd ⟨45,c,e⟩ h2);rw[e1,e2];exact j4⟩
end

instance b7i {s:Bs}:Ans prog GL 445 [str s] True (.tup [int (yP s),d9 (wD s)]):=⟨λ_=>by
 refine ze func445 ntmps445 λ_ hs=>?_;by_cases h1:s=[43]
 ·subst h1;exact j4
 repeat' first|refine Z ?_|intro
 refine y9 (α:=Nat) (λi=>[(0,str s),(4,int i),(2,int 0),(3,d9 false)]) (λi=>[]) (λi=>1<=i/\i<=256/\∀ c:UInt8,s=[45,c]->c.toNat≠0->i<=c.toNat) (λi=>256-i) 1 zc (List.nil_sublist _) ⟨dc,dc,λc _ h=>by omega⟩ ?_;rintro i ⟨hi1,hi2,hall⟩
 iterate 5 refine W ?_
 refine j3 ?_;refine pV ?_;refine w9 (λhlt=>?_) (λhlt=>?_)
 ·have hu:UInt8.ofNat (IntKind.u8.wrap (i:Int)).toNat=UInt8.ofNat i:=BK i;have hn:(UInt8.ofNat i).toNat=i:=by
   rw[UInt8.toNat_ofNat'];exact Nat.mod_eq_of_lt om
  repeat' first|refine O ?_|intro
  rw[hu];refine w9 (λh=>?_) (λh=>?_)
  ·subst h;obtain⟨e1,e2⟩:=Xk (c:=UInt8.ofNat i) (λe=>by rw[e] at hn;simp at hn;omega);repeat' first|refine O ?_|intro
   refine j6 ?_;rw[show ([45]++[UInt8.ofNat i]:Bs)=[45,UInt8.ofNat i] from rfl,e1,e2,hn];rfl
  repeat' first|refine O ?_|intro
  refine o9 (i+1) zc (List.nil_sublist _) ⟨om,om,λc e hc=>?_⟩ om;have h3:=hall c e hc;have h4:i≠c.toNat:=λe2=>h (by rw[e,e2];simp);omega
 obtain rfl:i=256:=by omega
 have h3:=SE h1 (λc e=>by
  by_cases hc:c.toNat=0
  ·exact UInt8.toNat_inj.1 hc
  have:=hall c e hc;have:=c.toNat_lt;omega)
 obtain⟨e1,e2⟩:=h3;rw[e1,e2];exact J7⟩

instance b9W {l:List Bs}{xs:List AV}{id:Option Value}[hx:Strs xs l]:Ans prog GL 369 [.sl 1 xs id] (1<=l.length) (d9 (l.all J6)):=⟨λhn=>by
 have h:=hx.out;subst h;have hm:(l.map str).length=l.length:=llm _;refine ze func369 ntmps369 λ_ hs=>?_;refine wF 0 (λhb=>?_);have hb:=nP hb;repeat' first|refine O ?_|intro
 refine y9 (α:=Nat) (λi=>[(3,d9 true),(6,.sl 1 (l.map str) id),(7,int (l.map str).length),(8,int i)]) (λi=>[]) (λi=>i<=l.length/\∀ j,(hj:j<l.length)->j<i->J6 l[j]=true) (λi=>l.length-i) 0 zc slr ⟨Nat.zero_le _,λ_ _ h=>absurd h om⟩ ?_;rintro i ⟨hi,hall⟩;repeat' first|refine O ?_|intro
 refine w9 (λhlt=>?_) (λhlt=>?_)
 ·have hil:i<l.length:=om
  repeat' first|refine O ?_|intro
  cases hb:J6 l[i]
  ·repeat' first|refine O ?_|intro
   refine j6 ?_;have:l.all J6=false:=List.all_eq_false.2 ⟨_,List.getElem_mem hil,by rw[hb];decide⟩;rw[this];rfl
  repeat' first|refine O ?_|intro
  refine o9 (i+1) zc slr ⟨hil,λj hj h=>?_⟩ om;by_cases hj2:j<i
  ·exact hall j hj hj2
  obtain rfl:j=i:=by omega
  exact hb
 obtain rfl:i=l.length:=by omega
 have ht:l.all J6=true:=List.all_eq_true.2 λx hx=>by
  obtain⟨j,hj,rfl⟩:=List.getElem_of_mem hx;exact hall j hj hj
 rw[ht];exact J7⟩
instance b9Z {s:Int}{o q p:Bs}:Ans prog GL 414 [.agg 4 [int s,str o,str q,str p]] True (d9 (jO ⟨s,o,q,p⟩)):=⟨λ_=>by
 refine ze func414 ntmps414 λ_ hs=>?_;by_cases h1:s=1
 ·subst h1;repeat' first|refine Z ?_|intro
  rw[show ([o,q].all J6)=(J6 o&&J6 q) by simp];cases p1:J6 o&&J6 q
  ·repeat' first|refine Z ?_|intro
   refine j6 ?_;simp only[Bool.and_eq_false_iff] at p1;rcases p1 with p1|p1 <;> simp[D8,jO,p1]
  repeat' first|refine Z ?_|intro
  refine j6 ?_;simp only[Bool.and_eq_true] at p1;simp[D8,jO,p1.1,p1.2]
 by_cases h2:2<=s/\s<=4
 ·have e:jO ⟨s,o,q,p⟩=[o,q,p].all J6:=by
   unfold jO;simp only[if_neg h1];rw[dT (show 1<=s/\s<=4 by omega)];simp
  rw[e];by_cases h3:s=2
  ·subst h3;exact j4
  by_cases h4:s=3
  ·subst h4;exact j4
  obtain rfl:s=4:=by omega
  exact j4
 have e:jO ⟨s,o,q,p⟩=false:=by
  unfold jO;rw[dZ (show ¬ (1<=s/\s<=4) by omega)];rfl
 rw[e];have h3:s≠2:=by omega
 have h4:s≠3:=om
 have h5:s≠4:=om
 exact j4⟩
instance b9b {s:Int}{o q p:Bs}:Ans prog GL 403 [.agg 4 [int s,str o,str q,str p]] (o.length<=1000000000/\q.length<=1000000000/\p.length<=1000000000) (d9 (jO ⟨s,o,q,p⟩)):=⟨λhp=>by
 obtain⟨l1,l2,l3⟩:=hp;refine ze func403 ntmps403 λ_ hs=>?_;by_cases h1:1<=s/\s<=4
 ·have e:jO ⟨s,o,q,p⟩=(J6 o&&(J6 q&&if s=1 then decide (p=[]) else J6 p)):=by
   unfold jO;rw[dT h1,Bool.true_and]
  rw[e];repeat' first|refine Z ?_|intro
  cases p1:J6 o
  ·exact j4
  repeat' first|refine Z ?_|intro
  cases p2:J6 q
  ·exact j4
  by_cases h2:s=1
  ·rw[if_pos h2];exact j4
  rw[if_neg h2];exact j4
 have e:jO ⟨s,o,q,p⟩=false:=by
  unfold jO;rw[dZ h1];rfl
 rw[e];by_cases h2:s<1
 all_goals
  exact j4⟩
end Go.Proofs.Z

namespace Go.Proofs.Z
open Go Go.RowKit Tw Av
end Go.Proofs.Z

namespace Go.Proofs.Z
open Go Go.RowKit Tw Av Go.Proofs.Tryz
section
variable {s:Bs}
theorem Hr (s:Bs):(qV s).length<=s.length/\(qU s).length<=s.length/\(fJ s).length<=s.length:=by
 have h1:=(aH 115 8 s false).1;have h2:=(aH 111 32 (qV s) (xM s)).1;have h3:=(aH 113 32 (qU s) (xL s)).1;unfold fJ;unfold qU at *;unfold qV at *;exact⟨h1,om,om⟩
theorem Ib :o8 115 8 s false=qV s:=rfl
theorem Ia :N9 115 4 s false=xM s:=rfl
theorem Hz :o8 111 32 (qV s) (xM s)=qU s:=rfl
theorem Hy :F4 111 32 (qV s) (xM s)=xL s:=rfl
theorem Hw :o8 113 32 (qU s) (xL s)=fJ s:=rfl
theorem Hu :F4 113 32 (qU s) (xL s)=jT s:=rfl
theorem OE (h:vD s≠0\/jO (vE s)=false):nJ s=yR/\tV s=10:=by
 have hk:BU s=false:=by
  unfold BU;rcases h with h|h
  ·rw[dZ h,Bool.false_and]
  rw[h,Bool.and_false]
 unfold nJ tV;rw[hk];exact⟨rfl,rfl⟩
theorem Hm (h1:vD s=0)(h2:jO (vE s)=true):nJ s=vE s/\tV s=0:=by
 have hk:BU s=true:=by
  unfold BU;rw[dT h1,h2];rfl
 unfold nJ tV;rw[hk];exact⟨rfl,rfl⟩
instance b9T :Ans prog GL 368 [str s] (s.length<=1000000000) (.tup [pF (nJ s),int (tV s)]):=⟨λhl=>by
 obtain⟨l1,l2,l3⟩:=Hr s;have e1:(qV s).length=(o8 115 8 s false).length:=rfl;have e2:(qU s).length=(o8 111 32 (o8 115 8 s false) (N9 115 4 s false)).length:=rfl;have e3:(fJ s).length=(o8 113 32 (o8 111 32 (o8 115 8 s false) (N9 115 4 s false)) (F4 111 32 (o8 115 8 s false) (N9 115 4 s false))).length:=rfl;refine ze func368 ntmps368 λ_ hs=>?_;repeat' first|refine Yz ?_|intro
 refine H6 (args:=[str s]) [] _ (by rw[hs];exact wH) (λu m1 hh=>?_) lpr;obtain⟨gr,rfl,rfl⟩:=hh;repeat' first|refine Yz ?_|intro
 rw[Ib,Ia,Hz,Hy,Hw,Hu];by_cases hE:vD s=0
 rotate_left
 ·obtain⟨v1,v2⟩:=OE (.inl hE);rw[v1,v2];rw[show vD s=U7 (o8 112 32 (fJ s) (jT s)) (F4 112 32 (fJ s) (jT s)) from rfl] at hE;exact Z5
 cases hc:jO (vE s)
 ·obtain⟨v1,v2⟩:=OE (.inr hc);rw[v1,v2];rw[show vD s=U7 (o8 112 32 (fJ s) (jT s)) (F4 112 32 (fJ s) (jT s)) from rfl] at hE;unfold vE at hc;repeat' first|refine Yz ?_|intro
  rw[hc];exact Z5
 obtain⟨v1,v2⟩:=Hm hE hc;rw[v1,v2];rw[show vD s=U7 (o8 112 32 (fJ s) (jT s)) (F4 112 32 (fJ s) (jT s)) from rfl] at hE;unfold vE at hc;repeat' first|refine Yz ?_|intro
 rw[hc];exact Z5⟩
instance b9a :Ans prog GL 346 [str s] (s.length<=1000000000) (.tup [pF (nJ s),int (tV s)]):=⟨λhl=>by
 obtain⟨l1,l2,l3⟩:=Hr s;have e1:(qV s).length=(o8 115 8 s false).length:=rfl;have e2:(qU s).length=(o8 111 32 (o8 115 8 s false) (N9 115 4 s false)).length:=rfl;have e3:(fJ s).length=(o8 113 32 (o8 111 32 (o8 115 8 s false) (N9 115 4 s false)) (F4 111 32 (o8 115 8 s false) (N9 115 4 s false))).length:=rfl;have t1:=(aH 111 32 (qV s) (xM s)).2;have t2:=(aH 113 32 (qU s) (xL s)).2;have t3:=(aH 112 32 (fJ s) (jT s)).2;have t4:(G9 111 32 (qV s) (xM s)).length<=1000000000/\(G9 113 32 (qU s) (xL s)).length<=1000000000/\(G9 112 32 (fJ s) (jT s)).length<=1000000000:=by omega
 refine ze func346 ntmps346 λ_ hs=>?_;repeat' first|refine Yz ?_|intro
 rw[Ib,Ia,Hz,Hy,Hw,Hu];by_cases hE:vD s=0
 rotate_left
 ·obtain⟨v1,v2⟩:=OE (.inl hE);rw[v1,v2];rw[show vD s=U7 (o8 112 32 (fJ s) (jT s)) (F4 112 32 (fJ s) (jT s)) from rfl] at hE;exact Z5
 cases hc:jO (vE s)
 ·obtain⟨v1,v2⟩:=OE (.inr hc);rw[v1,v2];rw[show vD s=U7 (o8 112 32 (fJ s) (jT s)) (F4 112 32 (fJ s) (jT s)) from rfl] at hE;unfold vE at hc;repeat' first|refine Yz ?_|intro
  rw[hc];exact Z5
 obtain⟨v1,v2⟩:=Hm hE hc;rw[v1,v2];rw[show vD s=U7 (o8 112 32 (fJ s) (jT s)) (F4 112 32 (fJ s) (jT s)) from rfl] at hE;unfold vE at hc;repeat' first|refine Yz ?_|intro
 rw[hc];exact Z5⟩
end
end Go.Proofs.Z
