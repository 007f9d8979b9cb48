/- . -/
import Derived.Test.YtjhnaegpchadiaaGreatDoorN19
namespace Av
open Go Go.RowKit Tw
structure Wd where
 n:Nat
 lt:n<115792089237316195423570985008687907853269984665640564039457584007913129639936
deriving DecidableEq
def wZ:Wd:=⟨0,dc⟩
def Z6 (n:Nat):Wd:=if h:n<115792089237316195423570985008687907853269984665640564039457584007913129639936 then ⟨n,h⟩ else wZ
def aU (n:Nat):Bool:=decide (n<115792089237316195423570985008687907853269984665640564039457584007913129639936)
theorem uD {n:Nat}(h:n<115792089237316195423570985008687907853269984665640564039457584007913129639936):(Z6 n).n=n:=by rw[Z6,dif_pos h]
theorem Pb (a:Wd):Z6 a.n=a:=by rw[Z6,dif_pos a.lt]
theorem Pf {n:Nat}(h:¬ n<115792089237316195423570985008687907853269984665640564039457584007913129639936):Z6 n=wZ:=by rw[Z6,dif_neg h]
def lm (n i:Nat):Nat:=n / 18446744073709551616 ^ i%18446744073709551616
theorem Yk (n i:Nat):lm n i<18446744073709551616:=Nat.mod_lt _ dc
theorem Dh (n:Nat):lm n 0=n%18446744073709551616:=by unfold lm;rw[Nat.pow_zero,Nat.div_one]
theorem Df (n:Nat):lm n 1=n / 18446744073709551616%18446744073709551616:=by unfold lm;rw[Nat.pow_one]
theorem De (n:Nat):lm n 2=n / 340282366920938463463374607431768211456%18446744073709551616:=rfl
theorem Dc (n:Nat):lm n 3=n / 6277101735386680763835789423207666416102355444464034512896%18446744073709551616:=rfl
theorem wI (i:Nat):lm 0 i=0:=by unfold lm;rw[Nat.zero_div]
theorem Wt {n m:Nat}(hn:n<115792089237316195423570985008687907853269984665640564039457584007913129639936)(hm:m<115792089237316195423570985008687907853269984665640564039457584007913129639936)(h0:lm n 0=lm m 0)(h1:lm n 1=lm m 1)(h2:lm n 2=lm m 2)(h3:lm n 3=lm m 3):n=m:=by
 rw[Dh,Dh] at h0;rw[Df,Df] at h1;rw[De,De] at h2;rw[Dc,Dc] at h3;omega
abbrev u6 (n:Nat):AV:=.lit (.int .u64 (n:Int))
abbrev iL (n:Nat):AV:=.agg 4 [u6 (lm n 0),u6 (lm n 1),u6 (lm n 2),u6 (lm n 3)]
abbrev O0 (a:Wd):AV:=iL a.n

def L6:Bs->Nat
 | []=>0
 | c::l=>c.toNat+256*L6 l
def dg (n i:Nat):Nat:=n / 256 ^ i%256
theorem vB (n i:Nat):dg n i<256:=Nat.mod_lt _ dc
def I9 (n k:Nat):Bs:=(List.range k).map fun i=>UInt8.ofNat (dg n i)
theorem aZ (n k:Nat):(I9 n k).length=k:=by simp[I9]
theorem TU {n k i:Nat}(h:i<k):(I9 n k)[i]?=some (UInt8.ofNat (dg n i)):=by simp[I9,h]
theorem Iz (n k:Nat):I9 n (k+1)=I9 n k++[UInt8.ofNat (dg n k)]:=by simp[I9,List.range_succ]
theorem Bn (i:Nat):0<256 ^ i:=Nat.pow_pos dc
theorem zZ:∀ l:Bs,L6 l<256 ^ l.length
 | []=>by simp[L6]
 | c::l=>by
  have:=zZ l;have:=c.toNat_lt;rw[L6,List.length_cons,Nat.pow_succ];omega
theorem AA:∀ a b:Bs,L6 (a++b)=L6 a+256 ^ a.length*L6 b
 | [],b=>by simp[L6]
 | c::a,b=>by
  rw[List.cons_append,L6,L6,AA a b,List.length_cons,Nat.pow_succ,Nat.mul_add,Nat.mul_comm (256 ^ a.length) 256,Nat.mul_assoc];omega
theorem Dl {l:Bs}{i:Nat}{c:UInt8}(h:l[i]?=some c):L6 (l.take (i+1))=L6 (l.take i)+256 ^ i*c.toNat:=by
 have hi:i<l.length:=by
  rcases Nat.lt_or_ge i l.length with h1|h1
  ·exact h1
  ·rw[List.getElem?_eq_none h1] at h;cases h
 rw[List.getElem?_eq_getElem hi] at h;injection h with h
 rw[List.take_succ_eq_append_getElem hi,AA,List.length_take,Nat.min_eq_left om,h];simp[L6]
theorem QM (n i:Nat):(UInt8.ofNat (dg n i)).toNat=dg n i:=by
 have:=vB n i;rw[UInt8.toNat_ofNat'];exact Nat.mod_eq_of_lt this
theorem RF (n k:Nat):n%256 ^ (k+1)=n%256 ^ k+256 ^ k*dg n k:=by
 rw[Nat.pow_succ,Nat.mod_mul];rfl
theorem EZ (n:Nat):∀ k,L6 (I9 n k)=n%256 ^ k
 | 0=>by simp[I9,L6,Nat.mod_one]
 | k+1=>by
  rw[Iz,AA,EZ n k,aZ,RF,L6,L6,QM,Nat.mul_zero,Nat.add_zero]
theorem Yw (n k:Nat)(c:UInt8):L6 (I9 n k++[c])=n%256 ^ k+256 ^ k*c.toNat:=by
 rw[AA,EZ,aZ];simp[L6]
def eT (n:Nat):Bs:=(I9 n 32).reverse
def jK (s:Bs):Nat:=L6 s.reverse
theorem BO (n:Nat):(eT n).length=32:=by simp[eT,aZ]
theorem a3T (a:Wd):jK (eT a.n)=a.n:=by
 rw[jK,eT,List.reverse_reverse,EZ];exact Nat.mod_eq_of_lt a.lt
theorem a3S {s:Bs}(h:s.length=32):jK s<115792089237316195423570985008687907853269984665640564039457584007913129639936:=by
 have:=zZ s.reverse;rw[List.length_reverse,h] at this;exact this
def Z4 (a b i:Nat):Nat:=(a%256 ^ i+b%256 ^ i) / 256 ^ i
theorem Jf (a b:Nat):Z4 a b 0=0:=by simp[Z4,Nat.mod_one]
theorem CB (a b i:Nat):Z4 a b i<=1/\(dg a i+dg b i+Z4 a b i)%256=dg (a+b) i/\(dg a i+dg b i+Z4 a b i) / 256=Z4 a b (i+1):=by
 have hp:=Bn i;have e1:Z4 a b (i+1)=(dg a i+dg b i+Z4 a b i) / 256:=by
  unfold Z4;rw[RF,RF,Nat.pow_succ,<- Nat.div_div_eq_div_mul];congr 1
  rw[show a%256 ^ i+256 ^ i*dg a i+(b%256 ^ i+256 ^ i*dg b i)=(a%256 ^ i+b%256 ^ i)+256 ^ i*(dg a i+dg b i) by rw[Nat.mul_add];omega,Nat.add_mul_div_left _ _ hp];omega
 have e2:(a+b) / 256 ^ i=a / 256 ^ i+b / 256 ^ i+Z4 a b i:=by
  have ha:=Nat.div_add_mod a (256 ^ i);have hb:=Nat.div_add_mod b (256 ^ i)
  conv=>lhs;rw[<- ha,<- hb]
  rw[show 256 ^ i*(a / 256 ^ i)+a%256 ^ i+(256 ^ i*(b / 256 ^ i)+b%256 ^ i)=(a%256 ^ i+b%256 ^ i)+256 ^ i*(a / 256 ^ i+b / 256 ^ i) by rw[Nat.mul_add];omega,Nat.add_mul_div_left _ _ hp];unfold Z4;omega
 refine⟨?_,?_,e1.symm⟩
 ·unfold Z4;have h1:=Nat.mod_lt a hp;have h2:=Nat.mod_lt b hp;have:(a%256 ^ i+b%256 ^ i) / 256 ^ i<2:=by
   rw[Nat.div_lt_iff_lt_mul hp];omega
  omega
 ·unfold dg;rw[e2];omega
theorem a2X (a b:Wd):Z4 a.n b.n 32=(a.n+b.n) / 256 ^ 32:=by
 unfold Z4;rw[Nat.mod_eq_of_lt a.lt,Nat.mod_eq_of_lt b.lt]
theorem a6e (a b:Wd):L6 (I9 (a.n+b.n) 32++[UInt8.ofNat (Z4 a.n b.n 32)])=a.n+b.n:=by
 have h1:=(CB a.n b.n 32).1;have h2:Z4 a.n b.n 32<2 ^ 8:=by omega
 rw[Yw,UInt8.toNat_ofNat',Nat.mod_eq_of_lt h2,a2X];exact Nat.mod_add_div _ _
theorem Qw {a b d:Nat}(h:a=d+b)(i:Nat):∃ n:Int,n=(dg a i:Int)-dg b i-Z4 d b i/\((n<0/\n+256=dg d i/\Z4 d b (i+1)=1)\/(0<=n/\n=dg d i/\Z4 d b (i+1)=0)):=by
 obtain⟨h1,h2,h3⟩:=CB d b i;rw[<- h] at h2;have:=vB d i;have:=vB b i;exact⟨_,rfl,om⟩
theorem Qx {n:Nat}(h:n<115792089237316195423570985008687907853269984665640564039457584007913129639936):L6 (I9 n 32)=n:=by
 rw[EZ];exact Nat.mod_eq_of_lt h
theorem B_pow (i:Nat):(18446744073709551616:Nat) ^ i=256 ^ (8*i):=by rw[Nat.pow_mul]
theorem Yl (n i:Nat):lm n (i / 8) / 256 ^ (i%8)%256=dg n i:=by
 unfold lm dg;have hr:i%8<8:=Nat.mod_lt _ dc;have e1:(18446744073709551616:Nat)=256 ^ (i%8)*(256*256 ^ (7-i%8)):=by
  rw[<- Nat.pow_succ',<- Nat.pow_add,show i%8+(7-i%8+1)=8 by omega]
 conv=>lhs;rw[e1]
 rw[Nat.mod_mul_right_div_self,Nat.mod_mul_right_mod,<- e1,Nat.div_div_eq_div_mul,B_pow,<- Nat.pow_add,show 8*(i / 8)+i%8=i by omega]
theorem Yj {m d i j:Nat}(hm:m<256 ^ i)(hd:d<256):lm (m+256 ^ i*d) j=if j=i / 8 then lm m j+256 ^ (i%8)*d else lm m j:=by
 have hr:i%8<8:=Nat.mod_lt _ dc;have hi:256 ^ i=18446744073709551616 ^ (i / 8)*256 ^ (i%8):=by rw[B_pow,<- Nat.pow_add,show 8*(i / 8)+i%8=i by omega]
 have hB:256 ^ (i%8)*256<=18446744073709551616:=by
  rw[<- Nat.pow_succ,show (18446744073709551616:Nat)=256 ^ 8 from rfl];exact Nat.pow_le_pow_right dc om
 have hX:256 ^ (i%8)*d+256 ^ (i%8)<=256 ^ (i%8)*256:=by
  rw[show 256 ^ (i%8)*d+256 ^ (i%8)=256 ^ (i%8)*(d+1) by rw[Nat.mul_add,Nat.mul_one]];exact Nat.mul_le_mul_left _ om
 generalize hq:i / 8=q at *;generalize hR:256 ^ (i%8)=R at *;rw[hi] at hm ⊢;unfold lm;have hPq:0<18446744073709551616 ^ q:=Nat.pow_pos dc;rcases Nat.lt_trichotomy j q with h|h|h
 ·rw[if_neg om,show q=j+(q-j-1+1) by omega,Nat.pow_add,Nat.pow_succ,Nat.mul_assoc,Nat.mul_assoc,Nat.add_mul_div_left _ _ (Nat.pow_pos dc)];rw[show 18446744073709551616 ^ (q-j-1)*18446744073709551616*(R*d)=18446744073709551616*(18446744073709551616 ^ (q-j-1)*(R*d)) by rw[Nat.mul_comm (18446744073709551616 ^ (q-j-1)) 18446744073709551616,Nat.mul_assoc],Nat.add_mul_mod_self_left]
 ·subst h;have hmq:m / 18446744073709551616 ^ j<R:=by
   rw[Nat.div_lt_iff_lt_mul hPq,Nat.mul_comm];exact hm
  rw[if_pos rfl,Nat.mul_assoc,Nat.add_mul_div_left _ _ hPq,Nat.mod_eq_of_lt om,Nat.mod_eq_of_lt om]
 ·have hlt:m+18446744073709551616 ^ q*R*d<18446744073709551616 ^ j:=by
   have e1:18446744073709551616 ^ q*R*d+18446744073709551616 ^ q*R<=18446744073709551616 ^ q*18446744073709551616:=by
    rw[Nat.mul_assoc,<- Nat.mul_add];exact Nat.mul_le_mul_left _ om
   have e2:18446744073709551616 ^ q*18446744073709551616<=18446744073709551616 ^ j:=by
    rw[<- Nat.pow_succ];exact Nat.pow_le_pow_right dc om
   omega
  rw[if_neg om,Nat.div_eq_of_lt hlt,Nat.div_eq_of_lt om]
theorem Yi {m i:Nat}(hm:m<256 ^ i):lm m (i / 8)<256 ^ (i%8):=by
 have hi:256 ^ i=18446744073709551616 ^ (i / 8)*256 ^ (i%8):=by rw[B_pow,<- Nat.pow_add,show 8*(i / 8)+i%8=i by omega]
 unfold lm;refine Nat.lt_of_le_of_lt (Nat.mod_le _ _) ?_;rw[Nat.div_lt_iff_lt_mul (Nat.pow_pos dc),Nat.mul_comm,<- hi];exact hm
theorem Wm {x d r:Nat}(hx:x<256 ^ r):x ||| (256 ^ r*d)=x+256 ^ r*d:=by
 have e:(256:Nat) ^ r=2 ^ (8*r):=by rw[Nat.pow_mul]
 rw[e] at hx ⊢;rw[Nat.or_comm,<- Nat.two_pow_add_eq_or_of_lt hx d,Nat.add_comm]
theorem Ip (n i:Nat):n / 256 ^ i=256*(n / 256 ^ (i+1))+dg n i:=by
 unfold dg;rw[Nat.pow_succ,<- Nat.div_div_eq_div_mul];omega
theorem Cy {a b P:Nat}(h:a / P<b / P):a<b:=by
 rcases Nat.lt_or_ge a b with h1|h1
 ·exact h1
 ·have:=Nat.div_le_div_right (c:=P) h1;omega
def tY (a b:Wd):Int:=if a.n<b.n then -1 else if b.n<a.n then 1 else 0
end Av

namespace Go.Proofs.YtjhnaegpchadiaaGreatDoor
open Go Go.RowKit Tw Av
def bJ (a b c:UInt8):Nat:=(a.toNat*256+b.toNat)*256+c.toNat
theorem KV (a b c:UInt8):bJ a b c<16777216:=by
 have h1:=a.toNat_lt;have h2:=b.toNat_lt;have h3:=c.toNat_lt;unfold bJ;omega
def Z0 (c most:Int)(b:Bool):Bs->Option (Bs × Bs)
 | s0::s1::s2::s3::r=>if b=false/\(s0.toNat:Int)=c/\(bJ s1 s2 s3:Int)<=most/\bJ s1 s2 s3<=r.length then some (r.take (bJ s1 s2 s3),r.drop (bJ s1 s2 s3)) else none
 | _=>none
def D8 (c most:Int)(s:Bs)(b:Bool):Bs:=((Z0 c most b s).map (·.1)).getD []
def j5 (c most:Int)(s:Bs)(b:Bool):Bs:=((Z0 c most b s).map (·.2)).getD s
def z8 (c most:Int)(s:Bs)(b:Bool):Bool:=(Z0 c most b s).isNone
def numOf (l:Bs):Nat:=l.foldl (fun n c=>n*256+c.toNat) 0
def kH (l:Bs):Bool:=decide (l.head?=some 0)
def rD (c:Int)(s:Bs)(b:Bool):Nat:=if kH (D8 c 8 s b)=true then 0 else numOf (D8 c 8 s b)
def nC (c:Int)(s:Bs)(b:Bool):Bool:=z8 c 8 s b || kH (D8 c 8 s b)
def K3 (c most:Int)(s:Bs)(b:Bool):Int:=if most<(rD c s b:Int) then 0 else rD c s b
def K8 (c most:Int)(s:Bs)(b:Bool):Bool:=nC c s b || decide (most<(rD c s b:Int))
def fE (c most:Int):Nat->Bs->Bool->List Bs × Bool
 | 0,_,b=>([],b)
 | f+1,s,b=>if b=true\/s=[] then ([],b) else (D8 c most s b::(fE c most f (j5 c most s b) (z8 c most s b)).1,(fE c most f (j5 c most s b) (z8 c most s b)).2)
def yR (c most:Int)(x:Bs):List Bs × Bool:=fE c most (x.length+1) x false
def vH (b1:Bool)(r:List Bs × Bool)(many:Int):Bool:=b1 || (r.2 || decide (many<(r.1.length:Int)))
def xM (b1:Bool)(r:List Bs × Bool)(many:Int):List Bs:=if vH b1 r many=true then [] else r.1
def bH (c many most:Int)(s:Bs)(b:Bool):Bool:=vH (z8 c 16777215 s b) (yR c most (D8 c 16777215 s b)) many
def fO (c many most:Int)(s:Bs)(b:Bool):List Bs:=xM (z8 c 16777215 s b) (yR c most (D8 c 16777215 s b)) many
def R3 (s:Bs)(b:Bool):Int:=if b=true\/s≠[] then 10 else 0
abbrev C8 (s:Bs)(b:Bool):AV:=.agg 2 [str s,j3 b]
theorem X5 (c most:Int)(s:Bs)(b:Bool):(j5 c most s b).length<=s.length/\(D8 c most s b).length<=s.length:=by
 unfold j5 D8 Z0;split
 ·split
  ·simp;omega
  ·simp
 ·simp
theorem uI (c most:Int)(s:Bs)(b:Bool):(D8 c most s b).length<16777216/\(0<=most->((D8 c most s b).length:Int)<=most):=by
 unfold D8 Z0;split
 ·rename_i s0 s1 s2 s3 r;have:=KV s1 s2 s3;split
  ·rename_i h;simp;omega
  ·simp
 ·simp
theorem OQ {c most:Int}{s:Bs}{b:Bool}(h:z8 c most s b=false):(j5 c most s b).length<s.length:=by
 unfold z8 j5 Z0 at *;split at h
 ·split
  ·simp;omega
  ·rename_i h1;rw[if_neg h1] at h;simp at h
 ·simp at h
theorem wC (c most:Int)(s:Bs):Z0 c most true s=none:=by
 unfold Z0;split
 ·rw[if_neg sm]
 ·rfl
theorem ET (l:Bs)(c:UInt8):numOf (l++[c])=numOf l*256+c.toNat:=by simp[numOf]
theorem Ck:∀ (n:Nat) (l:Bs),l.length=n->numOf l<256 ^ n
 | 0,l,h=>by
  rw[List.eq_nil_of_length_eq_zero h];decide
 | n+1,l,h=>by
  have hne:l≠[]:=by rintro rfl;simp at h
  rw[<- List.dropLast_concat_getLast hne,ET];have h1:=Ck n l.dropLast (by simp[h]);have h2:=(l.getLast hne).toNat_lt;rw[Nat.pow_succ];omega
theorem Cj {l:Bs}{i:Nat}(h:i<l.length):numOf (l.take (i+1))=numOf (l.take i)*256+l[i].toNat:=by
 rw[List.take_succ_eq_append_getElem h,ET]
theorem EU {l:Bs}(h:l.length<=8):numOf l<18446744073709551616:=by
 have h1:=Ck _ l rfl;have h2:256 ^ l.length<=256 ^ 8:=Nat.pow_le_pow_right dc h;omega
theorem KW (a:UInt8)(l:Bs):kH (a::l)=decide (a=0):=by simp[kH]
theorem Ci:∀ (n:Nat) (l:Bs),l.length=n->kH l=false->numOf l=0->l=[]
 | 0,l,h,_,_=>List.eq_nil_of_length_eq_zero h
 | n+1,l,h,h1,h2=>by
  have hne:l≠[]:=by rintro rfl;simp at h
  rw[<- List.dropLast_concat_getLast hne,ET] at h2;rw[<- List.dropLast_concat_getLast hne] at h1;have h3:numOf l.dropLast=0:=by omega
  have h4:(l.getLast hne).toNat=0:=om
  have h5:l.getLast hne=0:=UInt8.toNat.inj h4;cases hd:l.dropLast with
  | nil=>
   rw[hd,h5] at h1;simp[kH] at h1
  | cons a r=>
   have h6:=Ci n l.dropLast (by simp[h]) (by rw[hd];rw[hd] at h1;simpa[kH] using h1) h3;rw[hd] at h6;cases h6
theorem Ir:∀ (f:Nat) (l:Bs),l.length<=f->kH l=false->X0 f (numOf l)=l
 | 0,l,h,_=>by
  rw[List.eq_nil_of_length_eq_zero (by omega:l.length=0)];rfl
 | f+1,l,h,h1=>by
  by_cases hne:l=[]
  ·subst hne;rfl
  ·have hnz:numOf l≠0:=fun h0=>hne (Ci _ l rfl h1 h0);have e:=List.dropLast_concat_getLast hne;have h2:=(l.getLast hne).toNat_lt;have e1:numOf l=numOf l.dropLast*256+(l.getLast hne).toNat:=by rw[<- ET,e]
   rw[X0,if_neg hnz,show numOf l / 256=numOf l.dropLast by omega];rw[Ir f l.dropLast (by simp;omega) (by
    cases hd:l.dropLast with
    | nil=>rfl
    | cons a r=>rw[<- e,hd] at h1;simpa[kH] using h1)]
   have h3:UInt8.ofNat (numOf l)=l.getLast hne:=by
    apply UInt8.toNat.inj;rw[UInt8.toNat_ofNat',e1];omega
   rw[h3,e]
theorem TS:∀ (f n:Nat),n<256 ^ f->kH (X0 f n)=false
 | 0,n,_=>rfl
 | f+1,n,h=>by
  rw[X0];split
  ·rfl
  ·rename_i hn;have h1:=TS f (n / 256) (by rw[Nat.pow_succ] at h;omega);cases hd:X0 f (n / 256) with
   | nil=>
    have h2:n / 256=0:=by
     cases f with
     | zero=>simp at h;omega
     | succ f=>
      rw[X0] at hd;split at hd
      ·assumption
      ·simp at hd
    rw[List.nil_append,KW];refine dZ fun h0=>hn ?_;have:=congrArg UInt8.toNat h0;rw[UInt8.toNat_ofNat'] at this;simp at this;omega
   | cons a r=>
    rw[hd] at h1;rw[List.cons_append,KW];rw[KW] at h1;exact h1
theorem a2Q {l:Bs}(h:l.length<=8):(digits (numOf l)=l)↔kH l=false:=by
 constructor
 ·intro e;rw[<- e];exact TS 8 _ (by have:=EU h;simpa using this)
 ·intro h1;exact Ir 8 l h h1

structure Sta where
 h:Int
 t:Int
 r:Hsh
deriving DecidableEq
structure Hdr where
 c:Bs
 h:Int
 t:Int
 r:Hsh
deriving DecidableEq
structure Cli where
 c:Bs
 k:Bs
 p:Int
 f:Bool
 l:List Sta
deriving DecidableEq
abbrev D7 (x:Sta):AV:=.agg 34 [int x.h,int x.t,hA x.r]
abbrev V8 (x:Hdr):AV:=.agg 35 [str x.c,int x.h,int x.t,hA x.r]
abbrev kZ (x:Cli):AV:=.agg 5 [str x.c,str x.k,int x.p,j3 x.f,.sl 34 (x.l.map D7) none]
class Stas (xs:List AV)(l:outParam (List Sta)):Prop where
 out:xs=l.map D7
instance : Stas [] [] := ⟨rfl⟩
instance {a b:Int}{r:Hsh}{xs:List AV}{l:List Sta}[h:Stas xs l]:Stas (.agg 34 [int a,int b,hA r]::xs) (⟨a,b,r⟩::l):=⟨by rw[h.out];rfl⟩
instance {l:List Sta}:Stas (l.map D7) l:=⟨rfl⟩
instance {xs:List AV}{l:List Sta}{i:Nat}[h:Stas xs l]:Stas (xs.take i) (l.take i):=⟨by rw[h.out,List.map_take]⟩
instance {xs:List AV}{l:List Sta}{i:Nat}[h:Stas xs l]:Stas (xs.drop i) (l.drop i):=⟨by rw[h.out,List.map_drop]⟩
instance {xs ys:List AV}{l k:List Sta}[h:Stas xs l][g:Stas ys k]:Stas (xs++ys) (l++k):=⟨by rw[h.out,g.out,List.map_append]⟩
def Q7:Sta:=⟨0,0,F3⟩
def mM:Cli:=⟨[],[],0,false,[]⟩
def R7 (x:Hdr):Sta:=⟨x.h,x.t,x.r⟩
def V9 (c:Bs)(s:Sta):Hdr:=⟨c,s.h,s.t,s.r⟩
def Q4 (x:Hdr):Bool:=decide (1<=x.c.length/\x.c.length<=32/\1<=x.h/\x.h<=1099511627776/\0<=x.t/\x.t<=1099511627776)
def O7 (x:Hdr):Bs:=j6 99 x.c++p9 104 x.h++p9 116 x.t++j6 114 x.r.l
def kY (k:Bs):Bs:=mE (zeros 64) (if 64<k.length then (aM k).l else k)
def Q8 (c:UInt8)(l:Bs):Bs:=l.map (· ^^^ c)
def DY (k s:Bs):Hsh:=aM (Q8 92 (kY k)++(aM (Q8 54 (kY k)++s)).l)
def J8 (k:Bs)(x:Hdr):Hsh:=DY k (O7 x)
def Y2 (a b:Sta):Bool:=decide (a.h<b.h/\a.t<=b.t)
def kX (c:Bs)(l:List Sta)(i:Nat):Bool:=Q4 (V9 c (l.getD i Q7))&&(decide (i=0) || Y2 (l.getD (i-1) Q7) (l.getD i Q7))
def V6 (x:Cli):Bool:=decide (x.k.length<=64/\1<=x.p/\x.p<=1099511627776/\1<=x.l.length/\x.l.length<=32)&&(List.range x.l.length).all (kX x.c x.l)
def wG (k:Bs)(p:Int)(x:Hdr):Cli:=⟨x.c,k,p,false,[R7 x]⟩
def qB (k:Bs)(p:Int)(x:Hdr):Int:=if V6 (wG k p x)=true then 0 else 1
def pY (k:Bs)(p:Int)(x:Hdr):Cli:=if V6 (wG k p x)=true then wG k p x else mM
def dF (l:List Sta):Sta:=l.getLastD Q7
def jM (x:Cli)(now:Int):Bool:=!x.f&&decide (now<(dF x.l).t+x.p)
def F9 (l:List Sta)(h:Int):Nat:=l.findIdx fun s=>decide (h<=s.h)
def bE (l:List Sta)(h:Int):Bool:=decide (F9 l h<l.length/\(l.getD (F9 l h) Q7).h=h)
def rY (l:List Sta)(h:Int):Option Sta:=if bE l h=true then some (l.getD (F9 l h) Q7) else none
def fF (l:List Sta)(s:Sta)(i:Nat):Bool:=(decide (0<i) && !Y2 (l.getD (i-1) Q7) s) || (decide (i<l.length) && !Y2 s (l.getD i Q7))
def FI (x:Cli):Cli:={ x with f:=true }
def uS (l:List Sta)(s:Sta):List Sta:=(l.take (F9 l s.h)++s::l.drop (F9 l s.h)).drop (l.length+1-32)
def gW (x:Cli)(s:Sta):Cli:=
 if bE x.l s.h=true/\x.l.getD (F9 x.l s.h) Q7=s then x
 else if bE x.l s.h=true\/fF x.l s (F9 x.l s.h)=true then FI x
 else { x with l:=uS x.l s }
def bM (x:Cli)(h:Hdr)(mac:Hsh)(now:Int):Int:=
 if jM x now=false then 19 else if Q4 h=false\/h.c≠x.c then 1 else if J8 x.k h≠mac then 18 else 0
def gL (x:Cli)(h:Hdr)(mac:Hsh)(now:Int):Cli:=if bM x h mac now=0 then gW x (R7 h) else mM
def rX (l:List Sta)(h:Int):Option Sta:=l.find? fun s=>decide (s.h=h)
def fT (s x:Sta):Bool:=decide ((x.h<s.h/\s.t<x.t)\/(s.h<x.h/\x.t<s.t))
def lI (s:Sta):Option (List Sta × Bool)->Sta->Option (List Sta × Bool)
 | none,_=>none
 | some (acc,put),x=>if fT s x=true then none else if put=false/\s.h<x.h then some (acc++[s]++[x],true) else some (acc++[x],put)
def xS (l:List Sta)(s:Sta):Option (List Sta):=match l.foldl (lI s) (some ([],false)) with
 | none=>none
 | some (acc,true)=>some acc
 | some (acc,false)=>some (acc++[s])
def TY (l:List Sta):List Sta:=if 32<l.length then l.drop 1 else l
def JW (x:Cli)(s:Sta):Cli:=match rX x.l s.h with
 | some o=>if o=s then x else FI x
 | none=>match xS x.l s with
  | none=>FI x
  | some l=>{ x with l:=TY l }
def Rise (l:List Sta):Prop:=l.Pairwise fun a b=>a.h<b.h/\a.t<=b.t
theorem Rise.cons {a:Sta}{l:List Sta}:Rise (a::l)↔(∀ b∈l,a.h<b.h/\a.t<=b.t)/\Rise l:=List.pairwise_cons
theorem Ma (a:Sta)(l:List Sta)(h:Int):F9 (a::l) h=if h<=a.h then 0 else F9 l h+1:=by
 unfold F9;rw[List.findIdx_cons];by_cases hh:h<=a.h <;> simp[hh]
theorem GA (l:List Sta)(h:Int):F9 l h<=l.length:=List.findIdx_le_length
theorem MK:∀ {l:List Sta} (h:Int),Rise l->(∀ x∈l.take (F9 l h),x.h<h)/\(∀ x∈l.drop (F9 l h),h<=x.h)
 | [],h,_=>by simp
 | a::l,h,hr=>by
  rw[Rise.cons] at hr;rw[Ma];by_cases hh:h<=a.h
  ·rw[if_pos hh];refine⟨sm,fun x hx=>?_⟩;rw[List.drop_zero] at hx;rcases List.mem_cons.1 hx with rfl|hx
   ·exact hh
   ·have:=(hr.1 x hx).1;omega
  ·rw[if_neg hh];obtain⟨h1,h2⟩:=MK h hr.2;refine⟨fun x hx=>?_,fun x hx=>?_⟩
   ·rw[List.take_succ_cons] at hx;rcases List.mem_cons.1 hx with rfl|hx
    ·omega
    ·exact h1 x hx
   ·rw[List.drop_succ_cons] at hx;exact h2 x hx
theorem TF:∀ {l:List Sta} (h:Int),Rise l->rX l h=rY l h
 | [],h,_=>by simp[rX,rY,bE,F9]
 | a::l,h,hr=>by
  have hr':=hr;rw[Rise.cons] at hr;have ih:=TF h hr.2;unfold rX rY bE at ih ⊢;rw[List.find?_cons,Ma];by_cases hh:h<=a.h
  ·rw[if_pos hh];by_cases he:a.h=h
   ·simp[he]
   ·have hn:l.find? (fun s=>decide (s.h=h))=none:=by
     rw[List.find?_eq_none];intro x hx;have:=(hr.1 x hx).1;simp;omega
    simp[he,hn]
  ·rw[if_neg hh];have he:¬ a.h=h:=by omega
   simp only[he,decide_false,ih];simp
theorem DL {s x:Sta}{acc:List Sta}{put:Bool}:lI s (some (acc,put)) x=if fT s x=true then none else if put=false/\s.h<x.h then some (acc++[s]++[x],true) else some (acc++[x],put):=rfl
theorem FJ {s:Sta}:∀ l:List Sta,l.foldl (lI s) none=none
 | []=>rfl
 | x::l=>by rw[List.foldl_cons];exact FJ l
theorem Fv {s:Sta}:∀ (A:List Sta) (acc:List Sta),(∀ x∈A,x.h<s.h)->A.foldl (lI s) (some (acc,false))=if ∀ x∈A,x.t<=s.t then some (acc++A,false) else none
 | [],acc,_=>by simp
 | x::A,acc,h=>by
  have hx:=h x sm;have ih:=Fv A (acc++[x]) (fun y hy=>h y (by simp[hy]));rw[List.foldl_cons,DL];by_cases ht:x.t<=s.t
  ·have h1:fT s x=false:=by simp[fT];omega
   rw[h1,if_neg sm,if_neg om,ih];simp[ht]
  ·have h1:fT s x=true:=by simp[fT];omega
   rw[h1,if_pos rfl,FJ,if_neg (fun hall=>ht (hall x sm))]
theorem Fw {s:Sta}:∀ (B:List Sta) (acc:List Sta),(∀ x∈B,s.h<x.h/\s.t<=x.t)->B.foldl (lI s) (some (acc,true))=some (acc++B,true)
 | [],acc,_=>by simp
 | x::B,acc,h=>by
  obtain⟨h1,h2⟩:=h x sm;have h3:fT s x=false:=by simp[fT];omega
  rw[List.foldl_cons,DL];rw[h3,if_neg sm,if_neg sm,Fw B _ (fun y hy=>h y (by simp[hy]))];simp
theorem Rise.append {a b:List Sta}:Rise (a++b)↔Rise a/\Rise b/\∀ x∈a,∀ y∈b,x.h<y.h/\x.t<=y.t:=List.pairwise_append
theorem Lx {l:List Sta}{s:Sta}(hr:Rise l)(hn:bE l s.h=false):∀ x∈l.drop (F9 l s.h),s.h<x.h:=by
 obtain⟨_,p2⟩:=MK s.h hr;generalize hi:F9 l s.h=i at *;intro x hx;have h1:=p2 x hx;rcases Int.lt_or_eq_of_le h1 with h|h
 ·exact h
 ·exfalso
  have hlt:i<l.length:=by
   rcases Nat.lt_or_ge i l.length with h|h
   ·exact h
   ·rw[List.drop_of_length_le h] at hx;cases hx
  rw[List.drop_eq_getElem_cons hlt] at hx p2;have h0:(l.getD i Q7).h=s.h:=by
   have hg:l.getD i Q7=l[i]:=by simp[List.getD,hlt]
   rw[hg];have h3:=p2 l[i] List.mem_cons_self;rcases List.mem_cons.1 hx with rfl|hx
   ·omega
   ·have hr2:Rise (l.take i++(l[i]::l.drop (i+1))):=by rw[<- List.drop_eq_getElem_cons hlt,List.take_append_drop];exact hr
    have:=((Rise.cons.1 (Rise.append.1 hr2).2.1).1 x hx).1;omega
  simp[bE,hi,hlt] at hn;rw[List.getD,List.getElem?_eq_getElem hlt] at h0;exact hn (by simpa using h0)
theorem a4g {l:List Sta}{s:Sta}(hr:Rise l)(hn:bE l s.h=false):fF l s (F9 l s.h)=true↔(∃ x∈l.take (F9 l s.h),s.t<x.t)\/(∃ x∈l.drop (F9 l s.h),x.t<s.t):=by
 obtain⟨p1,_⟩:=MK s.h hr;have p3:=Lx hr hn;have hle:=GA l s.h;have rB:Rise (l.drop (F9 l s.h)):=hr.sublist (List.drop_sublist _ _);generalize hi:F9 l s.h=i at *;unfold fF;rw[Bool.or_eq_true];refine or_congr ?_ ?_
 ·rw[bet,decide_eq_true_eq]
  constructor
  ·rintro⟨h0,h1⟩;have hlt:i-1<l.length:=by omega
   have hg:l.getD (i-1) Q7=l[i-1]:=by simp[List.getD,hlt]
   have hm:l[i-1]∈l.take i:=List.mem_take_iff_getElem.2 ⟨i-1,om,rfl⟩;have h2:=p1 _ hm;rw[hg] at h1;refine⟨_,hm,?_⟩;simp[Y2] at h1;omega
  ·rintro⟨x,hx,ht⟩;obtain⟨j,hj,rfl⟩:=List.mem_take_iff_getElem.1 hx;have h0:0<i:=by omega
   have hlt:i-1<l.length:=om
   have hg:l.getD (i-1) Q7=l[i-1]:=by simp[List.getD,hlt]
   refine⟨h0,?_⟩;rw[hg];have h2:l[j].t<=l[i-1].t:=by
    rcases Nat.lt_or_ge j (i-1) with h|h
    ·exact((List.pairwise_iff_getElem.1 hr) j (i-1) om hlt h).2
    ·have:j=i-1:=by omega
     subst this;exact Int.le_refl _
   simp[Y2];omega
 ·rw[bet,decide_eq_true_eq]
  constructor
  ·rintro⟨hlt,h1⟩;have hg:l.getD i Q7=l[i]:=by simp[List.getD,hlt]
   have hm:l[i]∈l.drop i:=by rw[List.drop_eq_getElem_cons hlt];exact List.mem_cons_self
   have h2:=p3 _ hm;rw[hg] at h1;refine⟨_,hm,?_⟩;simp[Y2] at h1;omega
  ·rintro⟨x,hx,ht⟩;have hlt:i<l.length:=by
    rcases Nat.lt_or_ge i l.length with h|h
    ·exact h
    ·rw[List.drop_of_length_le h] at hx;cases hx
   have hg:l.getD i Q7=l[i]:=by simp[List.getD,hlt]
   refine⟨hlt,?_⟩;rw[hg];have h2:l[i].t<=x.t:=by
    rw[List.drop_eq_getElem_cons hlt] at hx rB;rcases List.mem_cons.1 hx with rfl|hx
    ·exact Int.le_refl _
    ·exact((Rise.cons.1 rB).1 x hx).2
   simp[Y2];omega
theorem a0b {l:List Sta}{s:Sta}(hr:Rise l)(hn:bE l s.h=false):xS l s=if fF l s (F9 l s.h)=true then none else some (l.take (F9 l s.h)++s::l.drop (F9 l s.h)):=by
 obtain⟨p1,p2⟩:=MK s.h hr;have hle:=GA l s.h;have p3:=Lx hr hn;have hbad:=a4g hr hn;generalize hi:F9 l s.h=i at *;have hl:l=l.take i++l.drop i:=(List.take_append_drop i l).symm;have hr2:Rise (l.take i++l.drop i):=by rw[<- hl];exact hr
 obtain⟨rA,rB,rAB⟩:=Rise.append.1 hr2;have hfold:l.foldl (lI s) (some ([],false))=(l.drop i).foldl (lI s) ((l.take i).foldl (lI s) (some ([],false))):=by
  rw[<- List.foldl_append,List.take_append_drop]
 unfold xS;rw[hfold,Fv _ _ p1,List.nil_append];by_cases hA:∀ x∈l.take i,x.t<=s.t
 ·rw[if_pos hA];generalize hB:l.drop i=B at *;cases B with
  | nil=>
   have:fF l s i=false:=by
    rw[<- Bool.not_eq_true,hbad];rintro (⟨x,hx,ht⟩|⟨x,hx,_⟩)
    ·have:=hA x hx;omega
    ·cases hx
   rw[this];rfl
  | cons b B=>
   rw[List.foldl_cons,DL];have hb:=p3 b sm;by_cases ht:s.t<=b.t
   ·have h1:fT s b=false:=by simp[fT];omega
    have h2:fF l s i=false:=by
     rw[<- Bool.not_eq_true,hbad];rintro (⟨x,hx,h⟩|⟨x,hx,h⟩)
     ·have:=hA x hx;omega
     ·rcases List.mem_cons.1 hx with rfl|hx
      ·omega
      ·have:=((Rise.cons.1 rB).1 x hx).2;omega
    rw[h2,h1,if_neg sm,if_pos ⟨rfl,hb⟩];have:=Fw B (l.take i++[s]++[b]) (fun x hx=>⟨p3 x (by simp[hx]),by have:=((Rise.cons.1 rB).1 x hx).2;omega⟩);rw[this];simp
   ·have h1:fT s b=true:=by simp[fT];omega
    have h2:fF l s i=true:=hbad.2 (.inr ⟨b,sm,om⟩);rw[h2,h1,if_pos rfl];rw[FJ];rfl
 ·rw[if_neg hA,FJ];have h2:fF l s i=true:=hbad.2 (.inl (by
   simp only[Classical.not_forall] at hA;obtain⟨x,hx,h⟩:=hA;exact⟨x,hx,om⟩))
  rw[h2];rfl
theorem Vd {x:Cli}{s:Sta}(hr:Rise x.l)(hl:x.l.length<=32):JW x s=gW x s:=by
 unfold JW gW;rw[TF _ hr];unfold rY;by_cases h1:bE x.l s.h=true
 ·rw[if_pos h1];by_cases h2:x.l.getD (F9 x.l s.h) Q7=s
  ·simp[h1]
  ·simp[h1]
 ·have h1':bE x.l s.h=false:=by simpa using h1
  rw[if_neg h1];simp only[a0b hr h1'];by_cases h3:fF x.l s (F9 x.l s.h)=true
  ·simp[h1',h3]
  ·have hle:=GA x.l s.h;have hlen:(x.l.take (F9 x.l s.h)++s::x.l.drop (F9 x.l s.h)).length=x.l.length+1:=by simp;omega
   rw[if_neg h3,if_neg (by simp[h1']),if_neg (by simp[h1',h3])];simp only[TY,hlen,uS];by_cases h4:32<x.l.length+1
   ·rw[if_pos h4,show x.l.length+1-32=1 by omega]
   ·rw[if_neg h4,show x.l.length+1-32=0 by omega,List.drop_zero]
attribute [irreducible] Q4 Y2 bE fF V6 jM fT

def rT (s:Bs):Bool:=s.all fun c=>decide (c≠47)
def I5 (s:Bs):Bool:=rT s&&decide (1<=s.length/\s.length<=32)
def A8:Bs->List Bs
 | []=>[[]]
 | c::s=>if c=47 then []::A8 s else (c::(A8 s).headD [])::(A8 s).tail
def bA (s:Bs):Bool:=decide (s.length<=200)&&((A8 s).all I5&&decide ((A8 s).length<=5))
def tQ (s:Bs):Nat:=if bA s=true then s.count 47 else 0
def QE (c d:Bs):Bool:=decide (d.take (c.length+1)=c++[47])
def rE (c d:Bs):Bool:=QE c d&&bA (d.drop (c.length+1))
def zN (c d:Bs):Bs:=if rE c d=true then d.drop (c.length+1) else []
def aV (s:Bs):Bool:=decide (1<=s.length/\s.length<=64)
def fZ (s:Bs):Bool:=decide (1<=s.length/\s.length<=200)
def K7 (a d:Bs):Bs:=[66]++j6 97 a++j6 100 d
def U8 (d:Bs):Bs:=[83]++j6 100 d
def G8 (d:List Ent)(k:Bs):Wd:=if (P9 d k).length=32 then Z6 (jK (P9 d k)) else wZ
def jD (k:Bs)(n:Wd)(d:List Ent):List Ent × Int:=if aU ((G8 d k).n+n.n)=true then R4 d k (eT ((G8 d k).n+n.n)) else ([],17)
def gY (k:Bs)(n:Wd)(d:List Ent):List Ent × Int:=if (G8 d k).n<n.n then ([],16) else if (G8 d k).n=n.n then (lY d k,0) else R4 d k (eT ((G8 d k).n-n.n))
def bN (a b:List Ent->List Ent × Int)(d:List Ent):List Ent × Int:=if (a d).2=0 then b (a d).1 else a d
def eF (d:List Ent)(a c:Bs)(n:Wd):List Ent × Int:=if aV a=false\/fZ c=false\/n.n=0 then ([],1) else if aU ((G8 d (K7 a c)).n+n.n)=false then ([],17) else bN (jD (U8 c) n) (jD (K7 a c) n) d
def vF (d:List Ent)(a c:Bs)(n:Wd):List Ent × Int:=if aV a=false\/fZ c=false\/n.n=0 then ([],1) else bN (gY (U8 c) n) (gY (K7 a c) n) d
def jC (d:List Ent)(a b c:Bs)(n:Wd):List Ent × Int:=if aV a=false\/aV b=false\/fZ c=false\/n.n=0 then ([],1)
 else if a=b/\(bN (gY (K7 a c) n) (jD (K7 b c) n) d).2≠16 then (d,0) else bN (gY (K7 a c) n) (jD (K7 b c) n) d
def H6 (k i:Bs):Bs:=k++j6 105 i
def aC (k i:Bs)(n:Int):Bs:=H6 k i++p9 113 n
def rU (s:Bs):Int:=R3 (j5 110 8 s false) (K8 110 1099511627776 s false)
def xR (s:Bs):Int:=if rU s=0 then K3 110 1099511627776 s false else 0
structure EndX where
 s:Int
 o:Bs
 q:Bs
 p:Bs
deriving DecidableEq
abbrev FL (x:EndX):AV:=.agg 4 [int x.s,str x.o,str x.q,str x.p]
def vN:EndX:=⟨0,[],[],[]⟩
def gD (x:EndX):Bool:=decide (1<=x.s/\x.s<=4)&&(I5 x.o&&(I5 x.q&&if x.s=1 then decide (x.p=[]) else I5 x.p))
def SE (x:EndX)(s:Int):Bool:=decide (x.s=s)&&gD x
def AF (o q:Bs):EndX × Int:=if I5 o=true/\I5 q=true then (⟨1,o,q,[]⟩,0) else (vN,1)
def zC (o p:Bs)(t:EndX):EndX × Int:=if I5 o=false\/I5 p=false then (vN,1) else if SE t 1=false\/t.q≠o then (vN,13) else (⟨2,o,t.o,p⟩,0)
def Xz (x t:EndX)(i:Bs):Bool:=decide (t.o=x.q/\t.q=x.o/\t.p=i)
def Bv (x:EndX)(a:Int)(i p:Bs)(t:EndX)(b:Int):EndX × Int:=if SE x a=true/\SE t b=true/\Xz x t i=true then (⟨3,x.o,x.q,p⟩,0) else (vN,13)
def GR (x:EndX)(i p:Bs)(t:EndX):EndX × Int:=if I5 i=false\/I5 p=false then (vN,1) else Bv x 1 i p t 2
def FT (x:EndX)(i:Bs)(t:EndX):EndX × Int:=Bv x 2 i x.p t 3
def jG (x:EndX):Bs:=p9 115 x.s++j6 111 x.o++j6 113 x.q++j6 112 x.p
def nI (s:Bs):Bs:=j5 115 8 s false
def uL (s:Bs):Bool:=K8 115 4 s false
def nH (s:Bs):Bs:=j5 111 32 (nI s) (uL s)
def uK (s:Bs):Bool:=z8 111 32 (nI s) (uL s)
def cZ (s:Bs):Bs:=j5 113 32 (nH s) (uK s)
def gV (s:Bs):Bool:=z8 113 32 (nH s) (uK s)
def rG (s:Bs):EndX:=⟨K3 115 4 s false,D8 111 32 (nI s) (uL s),D8 113 32 (nH s) (uK s),D8 112 32 (cZ s) (gV s)⟩
def rF (s:Bs):Int:=R3 (j5 112 32 (cZ s) (gV s)) (z8 112 32 (cZ s) (gV s))
def xJ (s:Bs):Bool:=decide (rF s=0)&&gD (rG s)
def kU (s:Bs):EndX:=if xJ s=true then rG s else vN
def pJ (s:Bs):Int:=if xJ s=true then 0 else 10
structure Pkt where
 q:Int
 s:Bs
 k:Bs
 d:Bs
 a:Wd
 f:Bs
 g:Bs
 h:Int
 t:Int
deriving DecidableEq
abbrev KA (x:Pkt):AV:=.agg 12 [int x.q,str x.s,str x.k,.agg 7 [str x.d,O0 x.a,str x.f,str x.g],int x.h,int x.t]
def Og:Pkt:=⟨0,[],[],[],wZ,[],[],0,0⟩
def fA (s:Bs):Bool:=rT s&&aV s
def KJ (x:Pkt):Bool:=decide (1<=x.q/\x.q<=1099511627776/\0<=x.h/\x.h<=1099511627776/\0<=x.t/\x.t<=1099511627776/\¬ (x.h=0/\x.t=0))
def EX (x:Pkt):Bool:=I5 x.s&&(I5 x.k&&bA x.d)
def FR (x:Pkt):Bool:=decide (x.a.n≠0)&&(fA x.f&&fA x.g)
def dO (x:Pkt):Bool:=KJ x&&(EX x&&FR x)
def JZ (x:Pkt):Bs:=p9 113 x.q++p9 104 x.h++p9 116 x.t++j6 115 x.s++j6 107 x.k++j6 100 x.d++j6 97 (eT x.a.n)++j6 102 x.f++j6 103 x.g
def nR (x:Pkt):Bs:=(aM ([80]++JZ x)).l
def kI (x:Pkt)(h t:Int):Bool:=decide ((x.h≠0/\x.h<=h)\/(x.t≠0/\x.t<=t))
def LK (e:Int):Bs:=[45,UInt8.ofNat e.toNat]
def Oa (s:Bs):Bool:=match s with
 | [43]=>true
 | [45,c]=>decide (c≠0)
 | _=>false
def Nz (s:Bs):Int:=match s with
 | [45,c]=>c.toNat
 | _=>0
def EI (s:Bs):Bs:=(aM ([65]++s)).l
def tV (x:Pkt):Bool:=rE x.s x.d
def vI (x:Pkt):Bs:=if tV x=true then x.d.drop (x.s.length+1) else x.k++[47]++x.d
def BB (s:Bs):Bs:=[101,115,99,114,111,119,47]++s
def mW (d:List Ent)(x:Pkt):List Ent × Int:=if dO x=false then ([],1) else if tV x=true then vF d x.f x.d x.a else jC d x.f (BB x.s) x.d x.a
def cO (d:List Ent)(x:Pkt):List Ent × Int:=if bA (vI x)=false\/dO x=false then ([],1) else if tV x=true then jC d (BB x.k) x.g (vI x) x.a else eF d x.g (vI x) x.a
def wU (d:List Ent)(x:Pkt):List Ent × Int:=if dO x=false then ([],1) else if tV x=true then eF d x.f x.d x.a else jC d (BB x.s) x.f x.d x.a
end Go.Proofs.YtjhnaegpchadiaaGreatDoor

namespace Go.Proofs.YtjhnaegpchadiaaGreatDoor
open Go Go.RowKit Tw Av Go.Proofs.Tryz
theorem sP {s:Bs}:Av.Spec prog GL 108 [str s] [] fun u m=>∃ g,u=ptr g/\m=[.var g 286 (C8 s false)]:=by
 refine qF func108 ntmps108 fun _ hs=>?_;repeat' first|refine Vz ?_|intro _
 exact l9 _ ⟨_,rfl,rfl⟩ slr
instance b0v {g:Nat}{s:Bs}{b:Bool}:AnsM prog GL 215 g [] 286 (C8 s b) True (j3 (!b)) (C8 s b):=⟨fun _=>by
 refine qF func215 ntmps215 fun _ hs=>?_;repeat' first|refine Vz ?_|intro _
 exact l9 _ ⟨rfl,rfl⟩ slr⟩
instance b0w {g:Nat}{s:Bs}{b:Bool}:AnsM prog GL 213 g [] 286 (C8 s b) True (.tup []) (C8 s true):=⟨fun _=>by
 refine qF func213 ntmps213 fun _ hs=>?_;repeat' first|refine Vz ?_|intro _
 exact iW _ ⟨rfl,rfl⟩ slr⟩
def Co (s:Bs)(b:Bool):UInt8:=if b=true then 0 else s.headD 0
def Xc (s:Bs)(b:Bool):Bool:=!b&&decide (s≠[])
instance b0t {g:Nat}{s:Bs}{b:Bool}:AnsM prog GL 247 g [] 286 (C8 s b) True (.tup [w9 (Co s b),j3 (Xc s b)]) (C8 s b):=⟨fun _=>by
 refine qF func247 ntmps247 fun _ hs=>?_;cases b
 ·cases s with
  | nil=>
   repeat' first|refine Yz ?_|intro _
   exact l9 _ ⟨rfl,rfl⟩ slr
  | cons c s=>
   repeat' first|refine Yz ?_|intro _
   exact l9 _ ⟨rfl,rfl⟩ slr
 ·repeat' first|refine Yz ?_|intro _
  exact l9 _ ⟨rfl,rfl⟩ slr⟩
instance b0u {g:Nat}{s:Bs}{b:Bool}:AnsM prog GL 216 g [] 286 (C8 s b) True (int (if b=true then 0 else s.length:Nat)) (C8 s b):=⟨fun _=>by
 refine qF func216 ntmps216 fun _ hs=>?_;cases b
 ·repeat' first|refine Yz ?_|intro _
  exact l9 _ ⟨rfl,rfl⟩ slr
 ·repeat' first|refine Yz ?_|intro _
  exact l9 _ ⟨rfl,rfl⟩ slr⟩
instance Ud {g:Nat}{s:Bs}{b:Bool}:AnsM prog GL 111 g [] 286 (C8 s b) True (int (R3 s b)) (C8 s b):=⟨fun _=>by
 refine qF func111 ntmps111 fun _ hs=>?_;cases b
 ·cases s with
  | nil=>
   repeat' first|refine Yz ?_|intro _
   exact l9 _ ⟨rfl,rfl⟩ slr
  | cons c s=>
   repeat' first|refine Yz ?_|intro _
   exact l9 _ ⟨rfl,rfl⟩ slr
 ·repeat' first|refine Yz ?_|intro _
  exact l9 _ ⟨rfl,rfl⟩ slr⟩
def zA (a b c:UInt8):Nat->Nat
 | 0=>0
 | 1=>0*256+a.toNat
 | 2=>(0*256+a.toNat)*256+b.toNat
 | _=>((0*256+a.toNat)*256+b.toNat)*256+c.toNat
instance Ua {g:Nat}{s:Bs}{b:Bool}{c most:Int}:AnsM prog GL 157 g [.lit (.int .u8 c),int most] 286 (C8 s b) (s.length<=4611686018427387904) (str (D8 c most s b)) (C8 (j5 c most s b) (z8 c most s b)):=⟨fun hl=>by
 refine qF func157 ntmps157 fun _ hs=>?_;cases b;rotate_left
 ·repeat' first|refine Yz ?_|intro _
  refine l9 [.var g 286 (C8 s true)] ⟨?_,?_⟩ slr
  ·rw[D8,wC];rfl
  ·rw[j5,z8,wC];rfl
 rcases s with _|⟨s0,s⟩
 ·repeat' first|refine Yz ?_|intro _
  exact l9 [.var g 286 (C8 [] true)] ⟨rfl,rfl⟩ slr
 have hn:(Co (s0::s) false).toNat=s0.toNat:=rfl;by_cases hc:(s0.toNat:Int)=c
 rotate_left
 ·have e:Z0 c most false (s0::s)=none:=by
   rcases s with _|⟨s1,_|⟨s2,_|⟨s3,r⟩⟩⟩
   ·rfl
   ·rfl
   ·rfl
   ·rw[Z0,if_neg (fun h=>hc h.2.1)]
  repeat' first|refine Yz ?_|intro _
  refine l9 [.var g 286 (C8 (s0::s) true)] ⟨?_,?_⟩ slr
  ·rw[D8,e];rfl
  ·rw[j5,z8,e];rfl
 rcases s with _|⟨s1,_|⟨s2,_|⟨s3,r⟩⟩⟩
 ·repeat' first|refine Yz ?_|intro _
  exact l9 [.var g 286 (C8 [s0] true)] ⟨rfl,rfl⟩ slr
 ·repeat' first|refine Yz ?_|intro _
  exact l9 [.var g 286 (C8 [s0,s1] true)] ⟨rfl,rfl⟩ slr
 ·repeat' first|refine Yz ?_|intro _
  exact l9 [.var g 286 (C8 [s0,s1,s2] true)] ⟨rfl,rfl⟩ slr
 have hlen:(s0::s1::s2::s3::r).length=r.length+4:=rfl;have q1:=s1.toNat_lt;have q2:=s2.toNat_lt;have q3:=s3.toNat_lt;repeat' first|refine Yz ?_|intro _
 refine U7 1 4 ?_;repeat' first|refine Yz ?_|intro _
 refine y5 (α:=Nat) (fun i=>[(0,ptr g),(2,int most),(9,int (zA s1 s2 s3 i:Nat)),(40,.sl 1 [.lit (o5 s1),.lit (o5 s2),.lit (o5 s3)] none),(41,int 3),(42,int i)]) (fun _=>[.var g 286 (C8 (s0::s1::s2::s3::r) false)])
  (fun i=>i<=3) (fun i=>3-i) 0 ⟨rfl,rfl,rfl,rfl,rfl,rfl,trivial⟩ slr om ?_
 intro i hi;rcases i with _|_|_|_|i
 ·have v0:zA s1 s2 s3 0=0:=rfl;repeat' first|refine Yz ?_|intro _
  exact o6 1 ⟨rfl,rfl,rfl,rfl,rfl,rfl,trivial⟩ slr om om
 ·have v1:zA s1 s2 s3 (0+1)=0*256+s1.toNat:=rfl;repeat' first|refine Yz ?_|intro _
  exact o6 2 ⟨rfl,rfl,rfl,rfl,rfl,rfl,trivial⟩ slr om om
 ·have v1:zA s1 s2 s3 (0+1+1)=(0*256+s1.toNat)*256+s2.toNat:=rfl;repeat' first|refine Yz ?_|intro _
  exact o6 3 ⟨rfl,rfl,rfl,rfl,rfl,rfl,trivial⟩ slr om om
 rotate_left
 ·exact absurd hi om
 have hv:zA s1 s2 s3 (0+1+1+1)=bJ s1 s2 s3:=by simp[zA,bJ]
 have hlt:=KV s1 s2 s3;have hct:Z0 c most false (s0::s1::s2::s3::r)=if (bJ s1 s2 s3:Int)<=most/\bJ s1 s2 s3<=r.length then some (r.take (bJ s1 s2 s3),r.drop (bJ s1 s2 s3)) else none:=by
  rw[Z0];simp[hc]
 rw[hv];generalize bJ s1 s2 s3=n at *;by_cases h1:(n:Int)<=most
 rotate_left
 ·have e:Z0 c most false (s0::s1::s2::s3::r)=none:=by rw[hct,if_neg (fun h=>h1 h.1)]
  repeat' first|refine Yz ?_|intro _
  refine l9 [.var g 286 (C8 (s0::s1::s2::s3::r) true)] ⟨?_,?_⟩ slr
  ·rw[D8,e];rfl
  ·rw[j5,z8,e];rfl
 by_cases h2:n<=r.length
 rotate_left
 ·have e:Z0 c most false (s0::s1::s2::s3::r)=none:=by rw[hct,if_neg (fun h=>h2 h.2)]
  repeat' first|refine Yz ?_|intro _
  refine l9 [.var g 286 (C8 (s0::s1::s2::s3::r) true)] ⟨?_,?_⟩ slr
  ·rw[D8,e];rfl
  ·rw[j5,z8,e];rfl
 have e:Z0 c most false (s0::s1::s2::s3::r)=some (r.take n,r.drop n):=by rw[hct,if_pos ⟨h1,h2⟩]
 repeat' first|refine Yz ?_|intro _
 refine U7 4 (4+n) ?_;repeat' first|refine Yz ?_|intro _
 refine U7 (4+n) (r.length+4) ?_;repeat' first|refine Yz ?_|intro _
 refine l9 [.var g 286 (C8 (r.drop n) false)] ⟨?_,?_⟩ ?_
 ·rw[D8,e];simp[J6,Nat.add_comm]
 ·rw[j5,z8,e];rfl
 ·have e2:List.drop (4+n) (List.take (r.length+4) (s0::s1::s2::s3::r))=r.drop n:=by
   rw[List.take_of_length_le sm,Nat.add_comm 4 n];simp
  rw[e2];exact List.Sublist.refl _⟩
end Go.Proofs.YtjhnaegpchadiaaGreatDoor
