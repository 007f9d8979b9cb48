/- . -/
import Derived.Test.YtgcmdlboancepaaGreatDoorQ20
namespace Av
open Go Go.RowKit Tw
structure Wd where
 n:Nat
 lt:n<115792089237316195423570985008687907853269984665640564039457584007913129639936
deriving DecidableEq
theorem Wd.ext' {a b:Wd}(h:a.n=b.n):a=b:=by cases a;cases b;cases h;rfl
def wZ:Wd:=⟨0,dc⟩
def Q5 (n:Nat):Wd:=if h:n<115792089237316195423570985008687907853269984665640564039457584007913129639936 then ⟨n,h⟩ else wZ
def Z6 (n:Nat):Bool:=decide (n<115792089237316195423570985008687907853269984665640564039457584007913129639936)
theorem qD {n:Nat}(h:n<115792089237316195423570985008687907853269984665640564039457584007913129639936):(Q5 n).n=n:=by rw[Q5,dif_pos h]
theorem Yn (a:Wd):Q5 a.n=a:=by rw[Q5,dif_pos a.lt]
theorem Ci {n:Nat}(h:¬ n<115792089237316195423570985008687907853269984665640564039457584007913129639936):Q5 n=wZ:=by rw[Q5,dif_neg h]
def lm (n i:Nat):Nat:=n / 18446744073709551616 ^ i%18446744073709551616
theorem lJ (n i:Nat):lm n i<18446744073709551616:=Nat.mod_lt _ dc
theorem FP (n:Nat):lm n 0=n%18446744073709551616:=by unfold lm;rw[Nat.pow_zero,Nat.div_one]
theorem FO (n:Nat):lm n 1=n / 18446744073709551616%18446744073709551616:=by unfold lm;rw[Nat.pow_one]
theorem FN (n:Nat):lm n 2=n / 340282366920938463463374607431768211456%18446744073709551616:=rfl
theorem FM (n:Nat):lm n 3=n / 6277101735386680763835789423207666416102355444464034512896%18446744073709551616:=rfl
theorem zV (i:Nat):lm 0 i=0:=by unfold lm;rw[Nat.zero_div]
theorem VZ {n m:Nat}(hn:n<115792089237316195423570985008687907853269984665640564039457584007913129639936)(hm:m<115792089237316195423570985008687907853269984665640564039457584007913129639936)(h0:lm n 0=lm m 0)(h1:lm n 1=lm m 1)(h2:lm n 2=lm m 2)(h3:lm n 3=lm m 3):n=m:=by
 rw[FP,FP] at h0;rw[FO,FO] at h1;rw[FN,FN] at h2;rw[FM,FM] at h3;omega
abbrev u6 (n:Nat):AV:=.lit (.int .u64 (n:Int))
abbrev Y6 (n:Nat):AV:=.agg 4 [u6 (lm n 0),u6 (lm n 1),u6 (lm n 2),u6 (lm n 3)]
abbrev z8 (a:Wd):AV:=Y6 a.n
def wj (a b c d:Nat):Nat:=a+18446744073709551616*b+340282366920938463463374607431768211456*c+6277101735386680763835789423207666416102355444464034512896*d
theorem Yc {a b c d:Nat}(ha:a<18446744073709551616)(hb:b<18446744073709551616)(hc:c<18446744073709551616)(hd:d<18446744073709551616) :
  wj a b c d<115792089237316195423570985008687907853269984665640564039457584007913129639936/\lm (wj a b c d) 0=a/\lm (wj a b c d) 1=b/\lm (wj a b c d) 2=c/\lm (wj a b c d) 3=d:=by
 rw[FP,FO,FN,FM];unfold wj;omega
theorem PT (a:Wd):wj (lm a.n 0) (lm a.n 1) (lm a.n 2) (lm a.n 3)=a.n:=by
 have:=a.lt;rw[FP,FO,FN,FM];unfold wj;omega
theorem b0w (a b:Wd):∃ c0 c1 c2 c3:Nat,c0=(lm a.n 0+lm b.n 0+0) / 18446744073709551616/\c1=(lm a.n 1+lm b.n 1+c0) / 18446744073709551616/\c2=(lm a.n 2+lm b.n 2+c1) / 18446744073709551616/\c3=(lm a.n 3+lm b.n 3+c2) / 18446744073709551616/\c0<=1/\c1<=1/\c2<=1/\c3<=1 /\
  (c3=0↔a.n+b.n<115792089237316195423570985008687907853269984665640564039457584007913129639936) /\
  lm (a.n+b.n) 0=(lm a.n 0+lm b.n 0+0)%18446744073709551616/\lm (a.n+b.n) 1=(lm a.n 1+lm b.n 1+c0)%18446744073709551616/\lm (a.n+b.n) 2=(lm a.n 2+lm b.n 2+c1)%18446744073709551616/\lm (a.n+b.n) 3=(lm a.n 3+lm b.n 3+c2)%18446744073709551616:=by
 refine⟨_,_,_,_,rfl,rfl,rfl,rfl,?_⟩;have ha:=PT a;have hb:=PT b;have h0:=lJ a.n 0;have h1:=lJ a.n 1;have h2:=lJ a.n 2;have h3:=lJ a.n 3;have g0:=lJ b.n 0;have g1:=lJ b.n 1;have g2:=lJ b.n 2;have g3:=lJ b.n 3;rw[FP (a.n+b.n),FO (a.n+b.n),FN (a.n+b.n),FM (a.n+b.n)];generalize lm a.n 0=x0 at *;generalize lm a.n 1=x1 at *;generalize lm a.n 2=x2 at *;generalize lm a.n 3=x3 at *;generalize lm b.n 0=y0 at *;generalize lm b.n 1=y1 at *;generalize lm b.n 2=y2 at *;generalize lm b.n 3=y3 at *;unfold wj at ha hb;generalize hc0:(x0+y0+0) / 18446744073709551616=c0;generalize hc1:(x1+y1+c0) / 18446744073709551616=c1;generalize hc2:(x2+y2+c1) / 18446744073709551616=c2;generalize hc3:(x3+y3+c2) / 18446744073709551616=c3;have b0:c0<=1:=by omega
 have b1:c1<=1:=om
 have b2:c2<=1:=om
 have b3:c3<=1:=om
 rw[<- ha,<- hb];refine⟨b0,b1,b2,b3,om,?_,?_,?_,?_⟩ <;> omega
def rT (x y b:Nat):Nat:=if x<y+b then 1 else 0
theorem a0j (a b:Wd):∃ c0 c1 c2 c3:Nat,c0=rT (lm a.n 0) (lm b.n 0) 0/\c1=rT (lm a.n 1) (lm b.n 1) c0/\c2=rT (lm a.n 2) (lm b.n 2) c1/\c3=rT (lm a.n 3) (lm b.n 3) c2/\c0<=1/\c1<=1/\c2<=1/\c3<=1 /\
  (c3=0↔b.n<=a.n)/\(b.n<=a.n ->
  lm (a.n-b.n) 0=(lm a.n 0+18446744073709551616-lm b.n 0-0)%18446744073709551616/\lm (a.n-b.n) 1=(lm a.n 1+18446744073709551616-lm b.n 1-c0)%18446744073709551616/\lm (a.n-b.n) 2=(lm a.n 2+18446744073709551616-lm b.n 2-c1)%18446744073709551616/\lm (a.n-b.n) 3=(lm a.n 3+18446744073709551616-lm b.n 3-c2)%18446744073709551616):=by
 refine⟨_,_,_,_,rfl,rfl,rfl,rfl,?_⟩;have ha:=PT a;have hb:=PT b;have h0:=lJ a.n 0;have h1:=lJ a.n 1;have h2:=lJ a.n 2;have h3:=lJ a.n 3;have g0:=lJ b.n 0;have g1:=lJ b.n 1;have g2:=lJ b.n 2;have g3:=lJ b.n 3;rw[FP (a.n-b.n),FO (a.n-b.n),FN (a.n-b.n),FM (a.n-b.n)];generalize lm a.n 0=x0 at *;generalize lm a.n 1=x1 at *;generalize lm a.n 2=x2 at *;generalize lm a.n 3=x3 at *;generalize lm b.n 0=y0 at *;generalize lm b.n 1=y1 at *;generalize lm b.n 2=y2 at *;generalize lm b.n 3=y3 at *;unfold wj at ha hb;have key:∀ x y b c:Nat,x<18446744073709551616->y<18446744073709551616->b<=1->rT x y b=c->c<=1/\(x+18446744073709551616-y-b)%18446744073709551616+y+b=x+18446744073709551616*c:=by
  intro x y b c hx hy hb hc;unfold rT at hc;split at hc <;> omega
 generalize hc0:rT x0 y0 0=c0;generalize hc1:rT x1 y1 c0=c1;generalize hc2:rT x2 y2 c1=c2;generalize hc3:rT x3 y3 c2=c3;obtain⟨b0,k0⟩:=key x0 y0 0 c0 h0 g0 om hc0;obtain⟨b1,k1⟩:=key x1 y1 c0 c1 h1 g1 b0 hc1;obtain⟨b2,k2⟩:=key x2 y2 c1 c2 h2 g2 b1 hc2;obtain⟨b3,k3⟩:=key x3 y3 c2 c3 h3 g3 b2 hc3;have m0:=Nat.mod_lt (x0+18446744073709551616-y0-0) (show 0<18446744073709551616 by decide);have m1:=Nat.mod_lt (x1+18446744073709551616-y1-c0) (show 0<18446744073709551616 by decide);have m2:=Nat.mod_lt (x2+18446744073709551616-y2-c1) (show 0<18446744073709551616 by decide);have m3:=Nat.mod_lt (x3+18446744073709551616-y3-c2) (show 0<18446744073709551616 by decide);generalize (x0+18446744073709551616-y0-0)%18446744073709551616=d0 at *;generalize (x1+18446744073709551616-y1-c0)%18446744073709551616=d1 at *;generalize (x2+18446744073709551616-y2-c1)%18446744073709551616=d2 at *;generalize (x3+18446744073709551616-y3-c2)%18446744073709551616=d3 at *;rw[<- ha,<- hb];clear hc0 hc1 hc2 hc3 key ha hb;refine⟨b0,b1,b2,b3,om,λhle=>?_⟩;have hd:(x0+18446744073709551616*x1+340282366920938463463374607431768211456*x2+6277101735386680763835789423207666416102355444464034512896*x3)-(y0+18446744073709551616*y1+340282366920938463463374607431768211456*y2+6277101735386680763835789423207666416102355444464034512896*y3)=d0+18446744073709551616*d1+340282366920938463463374607431768211456*d2+6277101735386680763835789423207666416102355444464034512896*d3:=by omega
 rw[hd];clear hd hle k0 k1 k2 k3;refine⟨?_,?_,?_,?_⟩ <;> omega

def O3:Bs->Nat
 | []=>0
 | c::l=>c.toNat+256*O3 l
def dg (n i:Nat):Nat:=n / 256 ^ i%256
theorem yG (n i:Nat):dg n i<256:=Nat.mod_lt _ dc
def K7 (n k:Nat):Bs:=(List.range k).map λi=>UInt8.ofNat (dg n i)
theorem dP (n k:Nat):(K7 n k).length=k:=by simp[K7]
theorem YZ {n k i:Nat}(h:i<k):(K7 n k)[i]?=some (UInt8.ofNat (dg n i)):=by simp[K7,h]
theorem Rv (n k:Nat):K7 n (k+1)=K7 n k++[UInt8.ofNat (dg n k)]:=by simp[K7,List.range_succ]
theorem Ji (i:Nat):0<256 ^ i:=Nat.pow_pos dc
theorem FQ:∀ l:Bs,O3 l<256 ^ l.length
 | []=>by simp[O3]
 | c::l=>by
  have:=FQ l;have:=c.toNat_lt;rw[O3,List.length_cons,Nat.pow_succ];omega
theorem FR:∀ a b:Bs,O3 (a++b)=O3 a+256 ^ a.length*O3 b
 | [],b=>by simp[O3]
 | c::a,b=>by
  rw[List.cons_append,O3,O3,FR a b,List.length_cons,Nat.pow_succ,Nat.mul_add,Nat.mul_comm (256 ^ a.length) 256,Nat.mul_assoc];omega
theorem Lt {l:Bs}{i:Nat}{c:UInt8}(h:l[i]?=some c):O3 (l.take (i+1))=O3 (l.take i)+256 ^ i*c.toNat:=by
 have hi:i<l.length:=by
  rcases Nat.lt_or_ge i l.length with h1|h1
  ·exact h1
  rw[List.getElem?_eq_none h1] at h;cases h
 rw[List.getElem?_eq_getElem hi] at h;injection h with h
 rw[List.take_succ_eq_append_getElem hi,FR,List.length_take,Nat.min_eq_left om,h];simp[O3]
theorem WA (n i:Nat):(UInt8.ofNat (dg n i)).toNat=dg n i:=by
 have:=yG n i;rw[UInt8.toNat_ofNat'];exact Nat.mod_eq_of_lt this
theorem WQ (n k:Nat):n%256 ^ (k+1)=n%256 ^ k+256 ^ k*dg n k:=by
 rw[Nat.pow_succ,Nat.mod_mul];rfl
theorem KL (n:Nat):∀ k,O3 (K7 n k)=n%256 ^ k
 | 0=>by simp[K7,O3,Nat.mod_one]
 | k+1=>by
  rw[Rv,FR,KL n k,dP,WQ,O3,O3,WA,Nat.mul_zero,Nat.add_zero]
theorem a3T (n k:Nat)(c:UInt8):O3 (K7 n k++[c])=n%256 ^ k+256 ^ k*c.toNat:=by
 rw[FR,KL,dP];simp[O3]
def bT (n:Nat):Bs:=(K7 n 32).reverse
def lT (s:Bs):Nat:=O3 s.reverse
theorem DT (n:Nat):(bT n).length=32:=by simp[bT,dP]
theorem a8o (a:Wd):lT (bT a.n)=a.n:=by
 rw[lT,bT,List.reverse_reverse,KL];exact Nat.mod_eq_of_lt a.lt
theorem a8n {s:Bs}(h:s.length=32):lT s<115792089237316195423570985008687907853269984665640564039457584007913129639936:=by
 have:=FQ s.reverse;rw[List.length_reverse,h] at this;exact this
def bF (a b i:Nat):Nat:=(a%256 ^ i+b%256 ^ i) / 256 ^ i
theorem Sg (a b:Nat):bF a b 0=0:=by simp[bF,Nat.mod_one]
theorem II (a b i:Nat):bF a b i<=1/\(dg a i+dg b i+bF a b i)%256=dg (a+b) i/\(dg a i+dg b i+bF a b i) / 256=bF a b (i+1):=by
 have hp:=Ji i;have e1:bF a b (i+1)=(dg a i+dg b i+bF a b i) / 256:=by
  unfold bF;rw[WQ,WQ,Nat.pow_succ,<- Nat.div_div_eq_div_mul];congr 1
  rw[show a%256 ^ i+256 ^ i*dg a i+(b%256 ^ i+256 ^ i*dg b i)=(a%256 ^ i+b%256 ^ i)+256 ^ i*(dg a i+dg b i) by rw[Nat.mul_add];omega,Nat.add_mul_div_left _ _ hp];omega
 have e2:(a+b) / 256 ^ i=a / 256 ^ i+b / 256 ^ i+bF a b i:=by
  have ha:=Nat.div_add_mod a (256 ^ i);have hb:=Nat.div_add_mod b (256 ^ i)
  conv=>lhs;rw[<- ha,<- hb]
  rw[show 256 ^ i*(a / 256 ^ i)+a%256 ^ i+(256 ^ i*(b / 256 ^ i)+b%256 ^ i)=(a%256 ^ i+b%256 ^ i)+256 ^ i*(a / 256 ^ i+b / 256 ^ i) by rw[Nat.mul_add];omega,Nat.add_mul_div_left _ _ hp];unfold bF;omega
 refine⟨?_,?_,e1.symm⟩
 ·unfold bF;have h1:=Nat.mod_lt a hp;have h2:=Nat.mod_lt b hp;have:(a%256 ^ i+b%256 ^ i) / 256 ^ i<2:=by
   rw[Nat.div_lt_iff_lt_mul hp];omega
  omega
 unfold dg;rw[e2];omega
theorem a7A (a b:Wd):bF a.n b.n 32=(a.n+b.n) / 256 ^ 32:=by
 unfold bF;rw[Nat.mod_eq_of_lt a.lt,Nat.mod_eq_of_lt b.lt]
theorem b0x (a b:Wd):O3 (K7 (a.n+b.n) 32++[UInt8.ofNat (bF a.n b.n 32)])=a.n+b.n:=by
 have h1:=(II a.n b.n 32).1;have h2:bF a.n b.n 32<2 ^ 8:=by omega
 rw[a3T,UInt8.toNat_ofNat',Nat.mod_eq_of_lt h2,a7A];exact Nat.mod_add_div _ _
theorem a0k {a b d:Nat}(h:a=d+b)(i:Nat):∃ n:Int,n=(dg a i:Int)-dg b i-bF d b i/\((n<0/\n+256=dg d i/\bF d b (i+1)=1)\/(0<=n/\n=dg d i/\bF d b (i+1)=0)):=by
 obtain⟨h1,h2,h3⟩:=II d b i;rw[<- h] at h2;have:=yG d i;have:=yG b i;exact⟨_,rfl,om⟩
theorem a0l {n:Nat}(h:n<115792089237316195423570985008687907853269984665640564039457584007913129639936):O3 (K7 n 32)=n:=by
 rw[KL];exact Nat.mod_eq_of_lt h
theorem B_pow (i:Nat):(18446744073709551616:Nat) ^ i=256 ^ (8*i):=by rw[Nat.pow_mul]
theorem Ll (n i:Nat):lm n (i / 8) / 256 ^ (i%8)%256=dg n i:=by
 unfold lm dg;have hr:i%8<8:=Nat.mod_lt _ dc;have e1:(18446744073709551616:Nat)=256 ^ (i%8)*(256*256 ^ (7-i%8)):=by
  rw[<- Nat.pow_succ',<- Nat.pow_add,show i%8+(7-i%8+1)=8 by omega]
 conv=>lhs;rw[e1]
 rw[Nat.mod_mul_right_div_self,Nat.mod_mul_right_mod,<- e1,Nat.div_div_eq_div_mul,B_pow,<- Nat.pow_add,show 8*(i / 8)+i%8=i by omega]
theorem a3K {m d i j:Nat}(hm:m<256 ^ i)(hd:d<256):lm (m+256 ^ i*d) j=if j=i / 8 then lm m j+256 ^ (i%8)*d else lm m j:=by
 have hr:i%8<8:=Nat.mod_lt _ dc;have hi:256 ^ i=18446744073709551616 ^ (i / 8)*256 ^ (i%8):=by rw[B_pow,<- Nat.pow_add,show 8*(i / 8)+i%8=i by omega]
 have hB:256 ^ (i%8)*256<=18446744073709551616:=by
  rw[<- Nat.pow_succ,show (18446744073709551616:Nat)=256 ^ 8 from rfl];exact Nat.pow_le_pow_right dc om
 have hX:256 ^ (i%8)*d+256 ^ (i%8)<=256 ^ (i%8)*256:=by
  rw[show 256 ^ (i%8)*d+256 ^ (i%8)=256 ^ (i%8)*(d+1) by rw[Nat.mul_add,Nat.mul_one]];exact Nat.mul_le_mul_left _ om
 generalize hq:i / 8=q at *;generalize hR:256 ^ (i%8)=R at *;rw[hi] at hm ⊢;unfold lm;have hPq:0<18446744073709551616 ^ q:=Nat.pow_pos dc;rcases Nat.lt_trichotomy j q with h|h|h
 ·rw[if_neg om,show q=j+(q-j-1+1) by omega,Nat.pow_add,Nat.pow_succ,Nat.mul_assoc,Nat.mul_assoc,Nat.add_mul_div_left _ _ (Nat.pow_pos dc)];rw[show 18446744073709551616 ^ (q-j-1)*18446744073709551616*(R*d)=18446744073709551616*(18446744073709551616 ^ (q-j-1)*(R*d)) by rw[Nat.mul_comm (18446744073709551616 ^ (q-j-1)) 18446744073709551616,Nat.mul_assoc],Nat.add_mul_mod_self_left]
 ·subst h;have hmq:m / 18446744073709551616 ^ j<R:=by
   rw[Nat.div_lt_iff_lt_mul hPq,Nat.mul_comm];exact hm
  rw[if_pos rfl,Nat.mul_assoc,Nat.add_mul_div_left _ _ hPq,Nat.mod_eq_of_lt om,Nat.mod_eq_of_lt om]
 have hlt:m+18446744073709551616 ^ q*R*d<18446744073709551616 ^ j:=by
  have e1:18446744073709551616 ^ q*R*d+18446744073709551616 ^ q*R<=18446744073709551616 ^ q*18446744073709551616:=by
   rw[Nat.mul_assoc,<- Nat.mul_add];exact Nat.mul_le_mul_left _ om
  have e2:18446744073709551616 ^ q*18446744073709551616<=18446744073709551616 ^ j:=by
   rw[<- Nat.pow_succ];exact Nat.pow_le_pow_right dc om
  omega
 rw[if_neg om,Nat.div_eq_of_lt hlt,Nat.div_eq_of_lt om]
theorem a3J {m i:Nat}(hm:m<256 ^ i):lm m (i / 8)<256 ^ (i%8):=by
 have hi:256 ^ i=18446744073709551616 ^ (i / 8)*256 ^ (i%8):=by rw[B_pow,<- Nat.pow_add,show 8*(i / 8)+i%8=i by omega]
 unfold lm;refine Nat.lt_of_le_of_lt (Nat.mod_le _ _) ?_;rw[Nat.div_lt_iff_lt_mul (Nat.pow_pos dc),Nat.mul_comm,<- hi];exact hm
theorem a2K {x d r:Nat}(hx:x<256 ^ r):x ||| (256 ^ r*d)=x+256 ^ r*d:=by
 have e:(256:Nat) ^ r=2 ^ (8*r):=by rw[Nat.pow_mul]
 rw[e] at hx ⊢;rw[Nat.or_comm,<- Nat.two_pow_add_eq_or_of_lt hx d,Nat.add_comm]
theorem Rn (n i:Nat):n / 256 ^ i=256*(n / 256 ^ (i+1))+dg n i:=by
 unfold dg;rw[Nat.pow_succ,<- Nat.div_div_eq_div_mul];omega
theorem Lh {a b P:Nat}(h:a / P<b / P):a<b:=by
 rcases Nat.lt_or_ge a b with h1|h1
 ·exact h1
 have:=Nat.div_le_div_right (c:=P) h1;omega
def wT (a b:Wd):Int:=if a.n<b.n then -1 else if b.n<a.n then 1 else 0
end Av

namespace Go.Proofs.Z
open Go Go.RowKit Tw Av
def eO (a b c:UInt8):Nat:=(a.toNat*256+b.toNat)*256+c.toNat
theorem PW (a b c:UInt8):eO a b c<16777216:=by
 have h1:=a.toNat_lt;have h2:=b.toNat_lt;have h3:=c.toNat_lt;unfold eO;omega
def bE (c most:Int)(b:Bool):Bs->Option (Bs × Bs)
 | s0::s1::s2::s3::r=>if b=false/\(s0.toNat:Int)=c/\(eO s1 s2 s3:Int)<=most/\eO s1 s2 s3<=r.length then some (r.take (eO s1 s2 s3),r.drop (eO s1 s2 s3)) else none
 | _=>none
def G9 (c most:Int)(s:Bs)(b:Bool):Bs:=((bE c most b s).map (·.1)).getD []
def o8 (c most:Int)(s:Bs)(b:Bool):Bs:=((bE c most b s).map (·.2)).getD s
def F4 (c most:Int)(s:Bs)(b:Bool):Bool:=(bE c most b s).isNone
def numOf (l:Bs):Nat:=l.foldl (λn c=>n*256+c.toNat) 0
def mQ (l:Bs):Bool:=decide (l.head?=some 0)
def uZ (c:Int)(s:Bs)(b:Bool):Nat:=if mQ (G9 c 8 s b)=true then 0 else numOf (G9 c 8 s b)
def qO (c:Int)(s:Bs)(b:Bool):Bool:=F4 c 8 s b || mQ (G9 c 8 s b)
def L9 (c most:Int)(s:Bs)(b:Bool):Int:=if most<(uZ c s b:Int) then 0 else uZ c s b
def N9 (c most:Int)(s:Bs)(b:Bool):Bool:=qO c s b || decide (most<(uZ c s b:Int))
def jA (c most:Int):Nat->Bs->Bool->List Bs × Bool
 | 0,_,b=>([],b)
 | f+1,s,b=>if b=true\/s=[] then ([],b) else (G9 c most s b::(jA c most f (o8 c most s b) (F4 c most s b)).1,(jA c most f (o8 c most s b) (F4 c most s b)).2)
def DW (c most:Int)(x:Bs):List Bs × Bool:=jA c most (x.length+1) x false
def yL (b1:Bool)(r:List Bs × Bool)(many:Int):Bool:=b1 || (r.2 || decide (many<(r.1.length:Int)))
def BZ (b1:Bool)(r:List Bs × Bool)(many:Int):List Bs:=if yL b1 r many=true then [] else r.1
def eF (c many most:Int)(s:Bs)(b:Bool):Bool:=yL (F4 c 16777215 s b) (DW c most (G9 c 16777215 s b)) many
def jJ (c many most:Int)(s:Bs)(b:Bool):List Bs:=BZ (F4 c 16777215 s b) (DW c most (G9 c 16777215 s b)) many
def U7 (s:Bs)(b:Bool):Int:=if b=true\/s≠[] then 10 else 0
abbrev F7 (s:Bs)(b:Bool):AV:=.agg 2 [str s,d9 b]
theorem aH (c most:Int)(s:Bs)(b:Bool):(o8 c most s b).length<=s.length/\(G9 c most s b).length<=s.length:=by
 unfold o8 G9 bE;split
 ·split
  ·simp;omega
  simp
 simp
theorem xJ (c most:Int)(s:Bs)(b:Bool):(G9 c most s b).length<16777216/\(0<=most->((G9 c most s b).length:Int)<=most):=by
 unfold G9 bE;split
 ·rename_i s0 s1 s2 s3 r;have:=PW s1 s2 s3;split
  ·rename_i h;simp;omega
  simp
 simp
theorem UM {c most:Int}{s:Bs}{b:Bool}(h:F4 c most s b=false):(o8 c most s b).length<s.length:=by
 unfold F4 o8 bE at *;split at h
 ·split
  ·simp;omega
  rename_i h1;rw[if_neg h1] at h;simp at h
 simp at h
theorem zL (c most:Int)(s:Bs):bE c most true s=none:=by
 unfold bE;split
 ·rw[if_neg sm]
 rfl
theorem KD (l:Bs)(c:UInt8):numOf (l++[c])=numOf l*256+c.toNat:=by simp[numOf]
theorem Kl:∀ (n:Nat) (l:Bs),l.length=n->numOf l<256 ^ n
 | 0,l,h=>by
  rw[List.eq_nil_of_length_eq_zero h];decide
 | n+1,l,h=>by
  have hne:l≠[]:=by rintro rfl;simp at h
  rw[<- List.dropLast_concat_getLast hne,KD];have h1:=Kl n l.dropLast (by simp[h]);have h2:=(l.getLast hne).toNat_lt;rw[Nat.pow_succ];omega
theorem Kk {l:Bs}{i:Nat}(h:i<l.length):numOf (l.take (i+1))=numOf (l.take i)*256+l[i].toNat:=by
 rw[List.take_succ_eq_append_getElem h,KD]
theorem KE {l:Bs}(h:l.length<=8):numOf l<18446744073709551616:=by
 have h1:=Kl _ l rfl;have h2:256 ^ l.length<=256 ^ 8:=Nat.pow_le_pow_right dc h;omega
theorem PX (a:UInt8)(l:Bs):mQ (a::l)=decide (a=0):=by simp[mQ]
theorem Kj:∀ (n:Nat) (l:Bs),l.length=n->mQ l=false->numOf l=0->l=[]
 | 0,l,h,_,_=>List.eq_nil_of_length_eq_zero h
 | n+1,l,h,h1,h2=>by
  have hne:l≠[]:=by rintro rfl;simp at h
  rw[<- List.dropLast_concat_getLast hne,KD] at h2;rw[<- List.dropLast_concat_getLast hne] at h1;have h3:numOf l.dropLast=0:=by omega
  have h4:(l.getLast hne).toNat=0:=om
  have h5:l.getLast hne=0:=UInt8.toNat.inj h4;cases hd:l.dropLast with
  | nil=>
   rw[hd,h5] at h1;simp[mQ] at h1
  | cons a r=>
   have h6:=Kj n l.dropLast (by simp[h]) (by rw[hd];rw[hd] at h1;simpa[mQ] using h1) h3;rw[hd] at h6;cases h6
theorem Rq:∀ (f:Nat) (l:Bs),l.length<=f->mQ l=false->aD f (numOf l)=l
 | 0,l,h,_=>by
  rw[List.eq_nil_of_length_eq_zero (by omega:l.length=0)];rfl
 | f+1,l,h,h1=>by
  by_cases hne:l=[]
  ·subst hne;rfl
  have hnz:numOf l≠0:=λh0=>hne (Kj _ l rfl h1 h0);have e:=List.dropLast_concat_getLast hne;have h2:=(l.getLast hne).toNat_lt;have e1:numOf l=numOf l.dropLast*256+(l.getLast hne).toNat:=by rw[<- KD,e]
  rw[aD,if_neg hnz,show numOf l / 256=numOf l.dropLast by omega];rw[Rq f l.dropLast (by simp;omega) (by
   cases hd:l.dropLast with
   | nil=>rfl
   | cons a r=>rw[<- e,hd] at h1;simpa[mQ] using h1)]
  have h3:UInt8.ofNat (numOf l)=l.getLast hne:=by
   apply UInt8.toNat.inj;rw[UInt8.toNat_ofNat',e1];omega
  rw[h3,e]
theorem YX:∀ (f n:Nat),n<256 ^ f->mQ (aD f n)=false
 | 0,n,_=>rfl
 | f+1,n,h=>by
  rw[aD];split
  ·rfl
  rename_i hn;have h1:=YX f (n / 256) (by rw[Nat.pow_succ] at h;omega);cases hd:aD f (n / 256) with
  | nil=>
   have h2:n / 256=0:=by
    cases f with
    | zero=>simp at h;omega
    | succ f=>
     rw[aD] at hd;split at hd
     ·assumption
     simp at hd
   rw[List.nil_append,PX];refine dZ λh0=>hn ?_;have:=congrArg UInt8.toNat h0;rw[UInt8.toNat_ofNat'] at this;simp at this;omega
  | cons a r=>
   rw[hd] at h1;rw[List.cons_append,PX];rw[PX] at h1;exact h1
theorem a7q {l:Bs}(h:l.length<=8):(digits (numOf l)=l)↔mQ l=false:=by
 constructor
 ·intro e;rw[<- e];exact YX 8 _ (by have:=KE h;simpa using this)
 intro h1;exact Rq 8 l h h1

section
structure Sta where
 h:Int
 t:Int
 r:Hsh
deriving DecidableEq
variable {l:List Sta}
variable {s:Sta}
structure Hdr where
 c:Bs
 h:Int
 t:Int
 r:Hsh
deriving DecidableEq
structure Cli where
 c:Bs
 k:Bs
 p:Int
 f:Bool
 l:List Sta
deriving DecidableEq
abbrev G8 (x:Sta):AV:=.agg 34 [int x.h,int x.t,hA x.r]
abbrev Q7 (x:Hdr):AV:=.agg 35 [str x.c,int x.h,int x.t,hA x.r]
abbrev nT (x:Cli):AV:=.agg 5 [str x.c,str x.k,int x.p,d9 x.f,.sl 34 (x.l.map G8) none]
class Stas (xs:List AV)(l:outParam (List Sta)):Prop where
 out:xs=l.map G8
instance : Stas [] [] := ⟨rfl⟩
instance {a b:Int}{r:Hsh}{xs:List AV}{l:List Sta}[h:Stas xs l]:Stas (.agg 34 [int a,int b,hA r]::xs) (⟨a,b,r⟩::l):=⟨by rw[h.out];rfl⟩
instance {l:List Sta}:Stas (l.map G8) l:=⟨rfl⟩
instance {xs:List AV}{l:List Sta}{i:Nat}[h:Stas xs l]:Stas (xs.take i) (l.take i):=⟨by rw[h.out,List.map_take]⟩
instance {xs:List AV}{l:List Sta}{i:Nat}[h:Stas xs l]:Stas (xs.drop i) (l.drop i):=⟨by rw[h.out,List.map_drop]⟩
instance {xs ys:List AV}{l k:List Sta}[h:Stas xs l][g:Stas ys k]:Stas (xs++ys) (l++k):=⟨by rw[h.out,g.out,List.map_append]⟩
def R8:Sta:=⟨0,0,E9⟩
def pY:Cli:=⟨[],[],0,false,[]⟩
def jE (x:Hdr):Sta:=⟨x.h,x.t,x.r⟩
def bN (c:Bs)(s:Sta):Hdr:=⟨c,s.h,s.t,s.r⟩
def aO (x:Hdr):Bool:=decide (1<=x.c.length/\x.c.length<=32/\1<=x.h/\x.h<=1099511627776/\0<=x.t/\x.t<=1099511627776)
def R3 (x:Hdr):Bs:=r9 99 x.c++D7 104 x.h++D7 116 x.t++r9 114 x.r.l
def nQ (k:Bs):Bs:=pK (zeros 64) (if 64<k.length then (bH k).l else k)
def U1 (c:UInt8)(l:Bs):Bs:=l.map (· ^^^ c)
def JH (k s:Bs):Hsh:=bH (U1 92 (nQ k)++(bH (U1 54 (nQ k)++s)).l)
def cK (k:Bs)(x:Hdr):Hsh:=JH k (R3 x)
def fA (a b:Sta):Bool:=decide (a.h<b.h/\a.t<=b.t)
def rJ (c:Bs)(l:List Sta)(i:Nat):Bool:=aO (bN c (l.getD i R8))&&(decide (i=0) || fA (l.getD (i-1) R8) (l.getD i R8))
def aK (x:Cli):Bool:=decide (x.k.length<=64/\1<=x.p/\x.p<=1099511627776/\1<=x.l.length/\x.l.length<=32)&&(List.range x.l.length).all (rJ x.c x.l)
def CE (k:Bs)(p:Int)(x:Hdr):Cli:=⟨x.c,k,p,false,[jE x]⟩
def uE (k:Bs)(p:Int)(x:Hdr):Int:=if aK (CE k p x)=true then 0 else 1
def uD (k:Bs)(p:Int)(x:Hdr):Cli:=if aK (CE k p x)=true then CE k p x else pY
def dK (l:List Sta):Sta:=l.getLastD R8
def nZ (x:Cli)(now:Int):Bool:=!x.f&&decide (now<(dK x.l).t+x.p)
def J5 (l:List Sta)(h:Int):Nat:=l.findIdx λs=>decide (h<=s.h)
def fD (l:List Sta)(h:Int):Bool:=decide (J5 l h<l.length/\(l.getD (J5 l h) R8).h=h)
def vQ (l:List Sta)(h:Int):Option Sta:=if fD l h=true then some (l.getD (J5 l h) R8) else none
def jY (l:List Sta)(s:Sta)(i:Nat):Bool:=(decide (0<i) && !fA (l.getD (i-1) R8) s) || (decide (i<l.length) && !fA s (l.getD i R8))
def KU (x:Cli):Cli:={ x with f:=true }
def CJ (l:List Sta)(s:Sta):List Sta:=(l.take (J5 l s.h)++s::l.drop (J5 l s.h)).drop (l.length+1-32)
def nK (x:Cli)(s:Sta):Cli:=
 if fD x.l s.h=true/\x.l.getD (J5 x.l s.h) R8=s then x
 else if fD x.l s.h=true\/jY x.l s (J5 x.l s.h)=true then KU x
 else { x with l:=CJ x.l s }
def gV (x:Cli)(h:Hdr)(mac:Hsh)(now:Int):Int:=
 if nZ x now=false then 19 else if aO h=false\/h.c≠x.c then 1 else if cK x.k h≠mac then 18 else 0
def kN (x:Cli)(h:Hdr)(mac:Hsh)(now:Int):Cli:=if gV x h mac now=0 then nK x (jE h) else pY
def vP (l:List Sta)(h:Int):Option Sta:=l.find? λs=>decide (s.h=h)
def jM (s x:Sta):Bool:=decide ((x.h<s.h/\s.t<x.t)\/(s.h<x.h/\x.t<s.t))
def oF (s:Sta):Option (List Sta × Bool)->Sta->Option (List Sta × Bool)
 | none,_=>none
 | some (acc,put),x=>if jM s x=true then none else if put=false/\s.h<x.h then some (acc++[s]++[x],true) else some (acc++[x],put)
def CK (l:List Sta)(s:Sta):Option (List Sta):=match l.foldl (oF s) (some ([],false)) with
 | none=>none
 | some (acc,true)=>some acc
 | some (acc,false)=>some (acc++[s])
def ZF (l:List Sta):List Sta:=if 32<l.length then l.drop 1 else l
def OL (x:Cli)(s:Sta):Cli:=match vP x.l s.h with
 | some o=>if o=s then x else KU x
 | none=>match CK x.l s with
  | none=>KU x
  | some l=>{ x with l:=ZF l }
def Rise (l:List Sta):Prop:=l.Pairwise λa b=>a.h<b.h/\a.t<=b.t
theorem Rise.cons {a:Sta}:Rise (a::l)↔(∀ b∈l,a.h<b.h/\a.t<=b.t)/\Rise l:=List.pairwise_cons
theorem Vm (a:Sta)(l:List Sta)(h:Int):J5 (a::l) h=if h<=a.h then 0 else J5 l h+1:=by
 unfold J5;rw[List.findIdx_cons];by_cases hh:h<=a.h <;> simp[hh]
theorem LY (l:List Sta)(h:Int):J5 l h<=l.length:=List.findIdx_le_length
theorem RF:∀ {l:List Sta} (h:Int),Rise l->(∀ x∈l.take (J5 l h),x.h<h)/\(∀ x∈l.drop (J5 l h),h<=x.h)
 | [],h,_=>by simp
 | a::l,h,hr=>by
  rw[Rise.cons] at hr;rw[Vm];by_cases hh:h<=a.h
  ·rw[if_pos hh];refine⟨sm,λx hx=>?_⟩;rw[List.drop_zero] at hx;rcases List.mem_cons.1 hx with rfl|hx
   ·exact hh
   have:=(hr.1 x hx).1;omega
  rw[if_neg hh];obtain⟨h1,h2⟩:=RF h hr.2;refine⟨λx hx=>?_,λx hx=>?_⟩
  ·rw[List.take_succ_cons] at hx;rcases List.mem_cons.1 hx with rfl|hx
   ·omega
   exact h1 x hx
  rw[List.drop_succ_cons] at hx;exact h2 x hx
theorem YF:∀ {l:List Sta} (h:Int),Rise l->vP l h=vQ l h
 | [],h,_=>by simp[vP,vQ,fD,J5]
 | a::l,h,hr=>by
  have hr':=hr;rw[Rise.cons] at hr;have ih:=YF h hr.2;unfold vP vQ fD at ih ⊢;rw[List.find?_cons,Vm];by_cases hh:h<=a.h
  ·rw[if_pos hh];by_cases he:a.h=h
   ·simp[he]
   have hn:l.find? (λs=>decide (s.h=h))=none:=by
    rw[List.find?_eq_none];intro x hx;have:=(hr.1 x hx).1;simp;omega
   simp[he,hn]
  rw[if_neg hh];have he:¬ a.h=h:=by omega
  simp only[he,decide_false,ih];simp
theorem JB {x:Sta}{acc:List Sta}{put:Bool}:oF s (some (acc,put)) x=if jM s x=true then none else if put=false/\s.h<x.h then some (acc++[s]++[x],true) else some (acc++[x],put):=rfl
theorem KV {s:Sta}:∀ l:List Sta,l.foldl (oF s) none=none
 | []=>rfl
 | x::l=>by rw[List.foldl_cons];exact KV l
theorem Ow {s:Sta}:∀ (A:List Sta) (acc:List Sta),(∀ x∈A,x.h<s.h)->A.foldl (oF s) (some (acc,false))=if ∀ x∈A,x.t<=s.t then some (acc++A,false) else none
 | [],acc,_=>by simp
 | x::A,acc,h=>by
  have hx:=h x sm;have ih:=Ow A (acc++[x]) (λy hy=>h y (by simp[hy]));rw[List.foldl_cons,JB];by_cases ht:x.t<=s.t
  ·have h1:jM s x=false:=by simp[jM];omega
   rw[h1,if_neg sm,if_neg om,ih];simp[ht]
  have h1:jM s x=true:=by simp[jM];omega
  rw[h1,if_pos rfl,KV,if_neg (λhall=>ht (hall x sm))]
theorem Ox {s:Sta}:∀ (B:List Sta) (acc:List Sta),(∀ x∈B,s.h<x.h/\s.t<=x.t)->B.foldl (oF s) (some (acc,true))=some (acc++B,true)
 | [],acc,_=>by simp
 | x::B,acc,h=>by
  obtain⟨h1,h2⟩:=h x sm;have h3:jM s x=false:=by simp[jM];omega
  rw[List.foldl_cons,JB];rw[h3,if_neg sm,if_neg sm,Ox B _ (λy hy=>h y (by simp[hy]))];simp
theorem Rise.append {a b:List Sta}:Rise (a++b)↔Rise a/\Rise b/\∀ x∈a,∀ y∈b,x.h<y.h/\x.t<=y.t:=List.pairwise_append
theorem Vl (hr:Rise l)(hn:fD l s.h=false):∀ x∈l.drop (J5 l s.h),s.h<x.h:=by
 obtain⟨_,p2⟩:=RF s.h hr;generalize hi:J5 l s.h=i at *;intro x hx;have h1:=p2 x hx;rcases Int.lt_or_eq_of_le h1 with h|h
 ·exact h
 exfalso
 have hlt:i<l.length:=by
  rcases Nat.lt_or_ge i l.length with h|h
  ·exact h
  rw[List.drop_of_length_le h] at hx;cases hx
 rw[List.drop_eq_getElem_cons hlt] at hx p2;have h0:(l.getD i R8).h=s.h:=by
  have hg:l.getD i R8=l[i]:=by simp[List.getD,hlt]
  rw[hg];have h3:=p2 l[i] List.mem_cons_self;rcases List.mem_cons.1 hx with rfl|hx
  ·omega
  have hr2:Rise (l.take i++(l[i]::l.drop (i+1))):=by rw[<- List.drop_eq_getElem_cons hlt,List.take_append_drop];exact hr
  have:=((Rise.cons.1 (Rise.append.1 hr2).2.1).1 x hx).1;omega
 simp[fD,hi,hlt] at hn;rw[List.getD,List.getElem?_eq_getElem hlt] at h0;exact hn (by simpa using h0)
theorem a8w (hr:Rise l)(hn:fD l s.h=false):jY l s (J5 l s.h)=true↔(∃ x∈l.take (J5 l s.h),s.t<x.t)\/(∃ x∈l.drop (J5 l s.h),x.t<s.t):=by
 obtain⟨p1,_⟩:=RF s.h hr;have p3:=Vl hr hn;have hle:=LY l s.h;have rB:Rise (l.drop (J5 l s.h)):=hr.sublist (List.drop_sublist _ _);generalize hi:J5 l s.h=i at *;unfold jY;rw[Bool.or_eq_true];refine or_congr ?_ ?_
 ·rw[bet,decide_eq_true_eq]
  constructor
  ·rintro⟨h0,h1⟩;have hlt:i-1<l.length:=by omega
   have hg:l.getD (i-1) R8=l[i-1]:=by simp[List.getD,hlt]
   have hm:l[i-1]∈l.take i:=List.mem_take_iff_getElem.2 ⟨i-1,om,rfl⟩;have h2:=p1 _ hm;rw[hg] at h1;refine⟨_,hm,?_⟩;simp[fA] at h1;omega
  rintro⟨x,hx,ht⟩;obtain⟨j,hj,rfl⟩:=List.mem_take_iff_getElem.1 hx;have h0:0<i:=by omega
  have hlt:i-1<l.length:=om
  have hg:l.getD (i-1) R8=l[i-1]:=by simp[List.getD,hlt]
  refine⟨h0,?_⟩;rw[hg];have h2:l[j].t<=l[i-1].t:=by
   rcases Nat.lt_or_ge j (i-1) with h|h
   ·exact((List.pairwise_iff_getElem.1 hr) j (i-1) om hlt h).2
   have:j=i-1:=by omega
   subst this;exact Int.le_refl _
  simp[fA];omega
 rw[bet,decide_eq_true_eq]
 constructor
 ·rintro⟨hlt,h1⟩;have hg:l.getD i R8=l[i]:=by simp[List.getD,hlt]
  have hm:l[i]∈l.drop i:=by rw[List.drop_eq_getElem_cons hlt];exact List.mem_cons_self
  have h2:=p3 _ hm;rw[hg] at h1;refine⟨_,hm,?_⟩;simp[fA] at h1;omega
 rintro⟨x,hx,ht⟩;have hlt:i<l.length:=by
  rcases Nat.lt_or_ge i l.length with h|h
  ·exact h
  rw[List.drop_of_length_le h] at hx;cases hx
 have hg:l.getD i R8=l[i]:=by simp[List.getD,hlt]
 refine⟨hlt,?_⟩;rw[hg];have h2:l[i].t<=x.t:=by
  rw[List.drop_eq_getElem_cons hlt] at hx rB;rcases List.mem_cons.1 hx with rfl|hx
  ·exact Int.le_refl _
  exact((Rise.cons.1 rB).1 x hx).2
 simp[fA];omega
theorem a4z (hr:Rise l)(hn:fD l s.h=false):CK l s=if jY l s (J5 l s.h)=true then none else some (l.take (J5 l s.h)++s::l.drop (J5 l s.h)):=by
 obtain⟨p1,p2⟩:=RF s.h hr;have hle:=LY l s.h;have p3:=Vl hr hn;have hbad:=a8w hr hn;generalize hi:J5 l s.h=i at *;have hl:l=l.take i++l.drop i:=(List.take_append_drop i l).symm;have hr2:Rise (l.take i++l.drop i):=by rw[<- hl];exact hr
 obtain⟨rA,rB,rAB⟩:=Rise.append.1 hr2;have hfold:l.foldl (oF s) (some ([],false))=(l.drop i).foldl (oF s) ((l.take i).foldl (oF s) (some ([],false))):=by
  rw[<- List.foldl_append,List.take_append_drop]
 unfold CK;rw[hfold,Ow _ _ p1,List.nil_append];by_cases hA:∀ x∈l.take i,x.t<=s.t
 ·rw[if_pos hA];generalize hB:l.drop i=B at *;cases B with
  | nil=>
   have:jY l s i=false:=by
    rw[<- Bool.not_eq_true,hbad];rintro (⟨x,hx,ht⟩|⟨x,hx,_⟩)
    ·have:=hA x hx;omega
    cases hx
   rw[this];rfl
  | cons b B=>
   rw[List.foldl_cons,JB];have hb:=p3 b sm;by_cases ht:s.t<=b.t
   ·have h1:jM s b=false:=by simp[jM];omega
    have h2:jY l s i=false:=by
     rw[<- Bool.not_eq_true,hbad];rintro (⟨x,hx,h⟩|⟨x,hx,h⟩)
     ·have:=hA x hx;omega
     rcases List.mem_cons.1 hx with rfl|hx
     ·omega
     have:=((Rise.cons.1 rB).1 x hx).2;omega
    rw[h2,h1,if_neg sm,if_pos ⟨rfl,hb⟩];have:=Ox B (l.take i++[s]++[b]) (λx hx=>⟨p3 x (by simp[hx]),by have:=((Rise.cons.1 rB).1 x hx).2;omega⟩);rw[this];simp
   have h1:jM s b=true:=by simp[jM];omega
   have h2:jY l s i=true:=hbad.2 (.inr ⟨b,sm,om⟩);rw[h2,h1,if_pos rfl];rw[KV];rfl
 rw[if_neg hA,KV];have h2:jY l s i=true:=hbad.2 (.inl (by
  simp only[Classical.not_forall] at hA;obtain⟨x,hx,h⟩:=hA;exact⟨x,hx,om⟩))
 rw[h2];rfl
theorem a2k {x:Cli}(hr:Rise x.l)(hl:x.l.length<=32):OL x s=nK x s:=by
 unfold OL nK;rw[YF _ hr];unfold vQ;by_cases h1:fD x.l s.h=true
 ·rw[if_pos h1];by_cases h2:x.l.getD (J5 x.l s.h) R8=s
  ·simp[h1]
  simp[h1]
 have h1':fD x.l s.h=false:=by simpa using h1
 rw[if_neg h1];simp only[a4z hr h1'];by_cases h3:jY x.l s (J5 x.l s.h)=true
 ·simp[h1',h3]
 have hle:=LY x.l s.h;have hlen:(x.l.take (J5 x.l s.h)++s::x.l.drop (J5 x.l s.h)).length=x.l.length+1:=by simp;omega
 rw[if_neg h3,if_neg (by simp[h1']),if_neg (by simp[h1',h3])];simp only[ZF,hlen,CJ];by_cases h4:32<x.l.length+1
 ·rw[if_pos h4,show x.l.length+1-32=1 by omega]
 rw[if_neg h4,show x.l.length+1-32=0 by omega,List.drop_zero]
attribute [irreducible] aO fA fD jY aK nZ jM
end

def lH (s:Bs):Bool:=s.all λc=>decide (c≠47)
def J6 (s:Bs):Bool:=lH s&&decide (1<=s.length/\s.length<=32)
def F5:Bs->List Bs
 | []=>[[]]
 | c::s=>if c=47 then []::F5 s else (c::(F5 s).headD [])::(F5 s).tail
def bD (s:Bs):Bool:=decide (s.length<=200)&&((F5 s).all J6&&decide ((F5 s).length<=5))
def wR (s:Bs):Nat:=if bD s=true then s.count 47 else 0
def VS (c d:Bs):Bool:=decide (d.take (c.length+1)=c++[47])
def vB (c d:Bs):Bool:=VS c d&&bD (d.drop (c.length+1))
def EX (c d:Bs):Bs:=if vB c d=true then d.drop (c.length+1) else []
def P9 (s:Bs):Bool:=decide (1<=s.length/\s.length<=64)
def aC (s:Bs):Bool:=decide (1<=s.length/\s.length<=200)
def I4 (a d:Bs):Bs:=[66]++r9 97 a++r9 100 d
def Q8 (d:Bs):Bs:=[83]++r9 100 d
def H5 (d:List Ent)(k:Bs):Wd:=if (N8 d k).length=32 then Q5 (lT (N8 d k)) else wZ
def iU (k:Bs)(n:Wd)(d:List Ent):List Ent × Int:=if Z6 ((H5 d k).n+n.n)=true then P7 d k (bT ((H5 d k).n+n.n)) else ([],17)
def iG (k:Bs)(n:Wd)(d:List Ent):List Ent × Int:=if (H5 d k).n<n.n then ([],16) else if (H5 d k).n=n.n then (mZ d k,0) else P7 d k (bT ((H5 d k).n-n.n))
def Y7 (a b:List Ent->List Ent × Int)(d:List Ent):List Ent × Int:=if (a d).2=0 then b (a d).1 else a d
def aJ (d:List Ent)(a c:Bs)(n:Wd):List Ent × Int:=if P9 a=false\/aC c=false\/n.n=0 then ([],1) else if Z6 ((H5 d (I4 a c)).n+n.n)=false then ([],17) else Y7 (iU (Q8 c) n) (iU (I4 a c) n) d
def rR (d:List Ent)(a c:Bs)(n:Wd):List Ent × Int:=if P9 a=false\/aC c=false\/n.n=0 then ([],1) else Y7 (iG (Q8 c) n) (iG (I4 a c) n) d
def bC (d:List Ent)(a b c:Bs)(n:Wd):List Ent × Int:=if P9 a=false\/P9 b=false\/aC c=false\/n.n=0 then ([],1)
 else if a=b/\(Y7 (iG (I4 a c) n) (iU (I4 b c) n) d).2≠16 then (d,0) else Y7 (iG (I4 a c) n) (iU (I4 b c) n) d
def I9 (k i:Bs):Bs:=k++r9 105 i
def F6 (k i:Bs)(n:Int):Bs:=I9 k i++D7 113 n
def vM (s:Bs):Int:=U7 (o8 110 8 s false) (N9 110 1099511627776 s false)
def zW (s:Bs):Int:=if vM s=0 then L9 110 1099511627776 s false else 0
structure EndX where
 s:Int
 o:Bs
 q:Bs
 p:Bs
deriving DecidableEq
abbrev pF (x:EndX):AV:=.agg 4 [int x.s,str x.o,str x.q,str x.p]
def yR:EndX:=⟨0,[],[],[]⟩
def jO (x:EndX):Bool:=decide (1<=x.s/\x.s<=4)&&(J6 x.o&&(J6 x.q&&if x.s=1 then decide (x.p=[]) else J6 x.p))
def XI (x:EndX)(s:Int):Bool:=decide (x.s=s)&&jO x
def FY (o q:Bs):EndX × Int:=if J6 o=true/\J6 q=true then (⟨1,o,q,[]⟩,0) else (yR,1)
def EJ (o p:Bs)(t:EndX):EndX × Int:=if J6 o=false\/J6 p=false then (yR,1) else if XI t 1=false\/t.q≠o then (yR,13) else (⟨2,o,t.o,p⟩,0)
def a3B (x t:EndX)(i:Bs):Bool:=decide (t.o=x.q/\t.q=x.o/\t.p=i)
def Jy (x:EndX)(a:Int)(i p:Bs)(t:EndX)(b:Int):EndX × Int:=if XI x a=true/\XI t b=true/\a3B x t i=true then (⟨3,x.o,x.q,p⟩,0) else (yR,13)
def MG (x:EndX)(i p:Bs)(t:EndX):EndX × Int:=if J6 i=false\/J6 p=false then (yR,1) else Jy x 1 i p t 2
def LF (x:EndX)(i:Bs)(t:EndX):EndX × Int:=Jy x 2 i x.p t 3
def lM (x:EndX):Bs:=D7 115 x.s++r9 111 x.o++r9 113 x.q++r9 112 x.p
def qV (s:Bs):Bs:=o8 115 8 s false
def xM (s:Bs):Bool:=N9 115 4 s false
def qU (s:Bs):Bs:=o8 111 32 (qV s) (xM s)
def xL (s:Bs):Bool:=F4 111 32 (qV s) (xM s)
def fJ (s:Bs):Bs:=o8 113 32 (qU s) (xL s)
def jT (s:Bs):Bool:=F4 113 32 (qU s) (xL s)
def vE (s:Bs):EndX:=⟨L9 115 4 s false,G9 111 32 (qV s) (xM s),G9 113 32 (qU s) (xL s),G9 112 32 (fJ s) (jT s)⟩
def vD (s:Bs):Int:=U7 (o8 112 32 (fJ s) (jT s)) (F4 112 32 (fJ s) (jT s))
def BU (s:Bs):Bool:=decide (vD s=0)&&jO (vE s)
def nJ (s:Bs):EndX:=if BU s=true then vE s else yR
def tV (s:Bs):Int:=if BU s=true then 0 else 10
structure Pkt where
 q:Int
 s:Bs
 k:Bs
 d:Bs
 a:Wd
 f:Bs
 g:Bs
 h:Int
 t:Int
deriving DecidableEq
abbrev aT (x:Pkt):AV:=.agg 12 [int x.q,str x.s,str x.k,.agg 7 [str x.d,z8 x.a,str x.f,str x.g],int x.h,int x.t]
def Xp:Pkt:=⟨0,[],[],[],wZ,[],[],0,0⟩
def eG (s:Bs):Bool:=lH s&&P9 s
def PD (x:Pkt):Bool:=decide (1<=x.q/\x.q<=1099511627776/\0<=x.h/\x.h<=1099511627776/\0<=x.t/\x.t<=1099511627776/\¬ (x.h=0/\x.t=0))
def KG (x:Pkt):Bool:=J6 x.s&&(J6 x.k&&bD x.d)
def LD (x:Pkt):Bool:=decide (x.a.n≠0)&&(eG x.f&&eG x.g)
def X3 (x:Pkt):Bool:=PD x&&(KG x&&LD x)
def JY (x:Pkt):Bs:=D7 113 x.q++D7 104 x.h++D7 116 x.t++r9 115 x.s++r9 107 x.k++r9 100 x.d++r9 97 (bT x.a.n)++r9 102 x.f++r9 103 x.g
def aM (x:Pkt):Bs:=(bH ([80]++JY x)).l
def V9 (x:Pkt)(h t:Int):Bool:=decide ((x.h≠0/\x.h<=h)\/(x.t≠0/\x.t<=t))
def CS (e:Int):Bs:=[45,UInt8.ofNat e.toNat]
def wD (s:Bs):Bool:=match s with
 | [43]=>true
 | [45,c]=>decide (c≠0)
 | _=>false
def yP (s:Bs):Int:=match s with
 | [45,c]=>c.toNat
 | _=>0
def xP (s:Bs):Bs:=(bH ([65]++s)).l
def lK (x:Pkt):Bool:=vB x.s x.d
def vX (x:Pkt):Bs:=if lK x=true then x.d.drop (x.s.length+1) else x.k++[47]++x.d
def rP (s:Bs):Bs:=[101,115,99,114,111,119,47]++s
def eU (d:List Ent)(x:Pkt):List Ent × Int:=if X3 x=false then ([],1) else if lK x=true then rR d x.f x.d x.a else bC d x.f (rP x.s) x.d x.a
def aI (d:List Ent)(x:Pkt):List Ent × Int:=if bD (vX x)=false\/X3 x=false then ([],1) else if lK x=true then bC d (rP x.k) x.g (vX x) x.a else aJ d x.g (vX x) x.a
def jZ (d:List Ent)(x:Pkt):List Ent × Int:=if X3 x=false then ([],1) else if lK x=true then aJ d x.f x.d x.a else bC d (rP x.s) x.f x.d x.a
end Go.Proofs.Z
