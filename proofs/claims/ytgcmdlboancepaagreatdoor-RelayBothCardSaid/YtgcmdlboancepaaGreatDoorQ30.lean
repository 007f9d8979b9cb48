/- . -/
import Derived.Test.YtgcmdlboancepaaGreatDoorQ28
import Derived.Test.YtgcmdlboancepaaGreatDoorQ29
set_option maxHeartbeats 64000000
namespace Go.Proofs.Z
open Go Go.RowKit Tw Av Go.Proofs.Tryz
section
variable {a:Wd}{i:Nat}{l:Bs}
abbrev dI (l:Bs):List AV:=l.map λc=>int (c.toNat:Int)
class DIs (xs:List AV)(l:outParam Bs):Prop where
 out:xs=dI l
instance {l:Bs}:DIs (dI l) l:=⟨rfl⟩
theorem LB (l:Bs):(dI l).length=l.length:=llm _
theorem YY {n k:Nat}:dI (K7 n (k+1))=dI (K7 n k)++[int ((dg n k:Nat):Int)]:=by
 rw[Rv];unfold dI;rw[List.map_append,List.map_singleton,WA]
instance c0N :Ans prog GL 251 [z8 a] True (.sl 1 (dI (K7 a.n 32)) none):=⟨λ_=>by
 refine ze func251 ntmps251 λ_ hs=>?_;repeat' first|refine O ?_|intro
 rename_i g1;refine Y4 3 (Imp.nil (k:=1)) ?_;refine P6 (λok w h=>h.full 3 1 none 0) ?_;refine y9 (α:=Nat × Value) (λq=>[(1,ptr g1),(3,.sl 1 (dI (K7 a.n q.1)) (some q.2)),(4,int q.1)]) (λq=>[.tail 3 1 q.2,.var g1 45 (z8 a)]) (λq=>q.1<=32) (λq=>32-q.1) (0,.slice none 0 0) zc slr (Nat.zero_le _) ?_;rintro⟨i,v⟩ hi;dsimp only at hi ⊢;have hm:(dI (K7 a.n i)).length=i:=by rw[LB,dP]
 have hm2:=dP a.n i;repeat' first|refine O ?_|intro
 refine w9 (λhlt=>?_) (λhlt=>?_)
 ·have hi32:i<32:=om
  have hq:((i:Int) / 8)=((i / 8:Nat):Int):=om
  have hr:((i:Int)%8)=((i%8:Nat):Int):=om
  have hlm:=lJ a.n (i / 8);have hdv:lm a.n (i / 8) / 256 ^ (i%8)<18446744073709551616:=Nat.lt_of_le_of_lt (Nat.div_le_self _ _) hlm;have e1:=Ll a.n i;have e2:=yG a.n i;repeat' first|refine O ?_|intro
  refine O1 (i / 8) ?_;repeat' first|refine O ?_|intro
  refine bV (j:=i / 8) (IV om) ?_;repeat' first|refine O ?_|intro
  rw[hr];repeat' first|refine Yz ?_|intro
  refine We (i%8) ?_;refine b0k hdv ?_;rw[e1];repeat' first|refine O ?_|intro
  refine H7 (λv'=>?_);repeat' first|refine O ?_|intro
  rw[<- YY];refine o9 (i+1,v') zc ?_ hi32 (by dsimp only;omega);exact u7
 obtain rfl:i=32:=by omega
 repeat' first|refine O ?_|intro
 refine F9 ?_;exact Imp.sl⟩
theorem CZ {n k:Nat}(h:i<(K7 n k).length):(K7 n k)[i].toNat=dg n i:=by
 have h1:i<k:=by rw[dP] at h;exact h
 have h2:=YZ (n:=n) h1;rw[List.getElem?_eq_getElem h] at h2;injection h2 with h2
 rw[h2,WA]
instance b7N {b:Wd}:Ans prog GL 481 [z8 a,z8 b] True (int (wT a b)):=⟨λ_=>by
 have hla:=dP a.n 32;have hlb:=dP b.n 32;refine ze func481 ntmps481 λ_ hs=>?_;repeat' first|refine O ?_|intro
 rename_i g2 g3;refine y9 (α:=Nat) (λn=>[(5,.sl 1 (dI (K7 a.n 32)) none),(6,.sl 1 (dI (K7 b.n 32)) none),(7,int ((n:Int)-1))]) (λn=>[]) (λn=>n<=32/\a.n / 256 ^ n=b.n / 256 ^ n) (λn=>n) 32 zc (List.nil_sublist _) ⟨Nat.le_refl _,by rw[Nat.div_eq_of_lt a.lt,Nat.div_eq_of_lt b.lt]⟩ ?_;rintro n ⟨hn,he⟩;rcases n with _|k
 ·rw[Nat.pow_zero,Nat.div_one,Nat.div_one] at he;repeat' first|refine Z ?_|intro
  refine j6 ?_;unfold wT;rw[if_neg om,if_neg om];rfl
 rw[show ((k+1:Nat):Int)-1=(k:Int) by omega];have hka:k<(K7 a.n 32).length:=by omega
 have hkb:k<(K7 b.n 32).length:=om
 have ea:=CZ hka;have eb:=CZ hkb;have da:=Rn a.n k;have db:=Rn b.n k;repeat' first|refine Z ?_|intro
 refine w9 (λh=>?_) (λh=>?_)
 ·repeat' first|refine O ?_|intro
  refine j6 ?_;have:a.n<b.n:=Lh (P:=256 ^ k) om;unfold wT;rw[if_pos this];rfl
 repeat' first|refine O ?_|intro
 refine w9 (λh2=>?_) (λh2=>?_)
 ·repeat' first|refine O ?_|intro
  refine j6 ?_;have:b.n<a.n:=Lh (P:=256 ^ k) om;unfold wT;rw[if_neg om,if_pos this];rfl
 repeat' first|refine O ?_|intro
 refine o9 k zc (List.nil_sublist _) ⟨om,om⟩ (Nat.lt_succ_self k)⟩
instance b7a :Ans prog GL 166 [z8 a] True (str (bT a.n)):=⟨λ_=>by
 have hla:=dP a.n 32;have hbl:=DT a.n;refine ze func166 ntmps166 λ_ hs=>?_;repeat' first|refine O ?_|intro
 refine Y4 4 (Imp.nil (k:=1)) ?_;refine P6 (λok w h=>h.full 5 1 none 0) ?_;refine y9 (α:=Nat × Value) (λq=>[(3,.sl 1 (dI (K7 a.n 32)) none),(4,.sl 1 (((bT a.n).take (32-q.1)).map A7) (some q.2)),(5,int ((q.1:Int)-1))]) (λq=>[.tail 5 1 q.2]) (λq=>q.1<=32) (λq=>q.1) (32,.slice none 0 0) zc zd (Nat.le_refl _) ?_;rintro⟨n,v⟩ hn;dsimp only at hn ⊢;rcases n with _|k
 ·rw[show 32-0=32 from rfl,List.take_of_length_le om];exact j4
 rw[show ((k+1:Nat):Int)-1=(k:Int) by omega];have hka:k<(K7 a.n 32).length:=by omega
 have ea:=CZ hka;have hm:((bT a.n).take (32-(k+1))).length<=32:=by rw[List.length_take];omega
 have hm2:(((bT a.n).take (32-(k+1))).map A7).length<=32:=by rw[llm];exact hm
 have e2:((bT a.n).take (32-k)).map A7=((bT a.n).take (32-(k+1))).map A7++[A7 (UInt8.ofNat (dg a.n k))]:=by
  rw[show 32-k=32-(k+1)+1 by omega,Vf om,List.map_append,show 31-(32-(k+1))=k by omega];rfl
 repeat' first|refine Z ?_|intro
 rw[ea,MX];refine H7 (λv'=>?_);repeat' first|refine O ?_|intro
 rw[<- e2];refine o9 (k,v') zc ?_ (by dsimp only;omega) (Nat.lt_succ_self k);exact zd⟩
theorem XB :O3 (l.take i)<256 ^ i:=by
 have h:=FQ (l.take i);refine Nat.lt_of_lt_of_le h (Nat.pow_le_pow_right dc ?_);rw[List.length_take];omega
theorem Ye {n m:Nat}{x:Nat}(hi:i<4)(h:∀ j,j<4->lm m j=if j=i then x else lm n j):[u6 (lm n 0),u6 (lm n 1),u6 (lm n 2),u6 (lm n 3)].set i (u6 x)=[u6 (lm m 0),u6 (lm m 1),u6 (lm m 2),u6 (lm m 3)]:=by
 have h0:=h 0 om;have h1:=h 1 om;have h2:=h 2 om;have h3:=h 3 om;rw[h0,h1,h2,h3];rcases i with _|_|_|_|i <;> first|rfl|omega
theorem a1Y (hi:i<l.length)(j:Nat):lm (O3 (l.take (i+1))) j=if j=i / 8 then lm (O3 (l.take i)) (i / 8)+256 ^ (i%8)*l[i].toNat else lm (O3 (l.take i)) j:=by
 rw[Lt (List.getElem?_eq_getElem hi),a3K XB l[i].toNat_lt];split
 ·rename_i h;rw[h]
 rfl
instance b9x {xs:List AV}{id:Option Value}[hx:DIs xs l]:Ans prog GL 252 [.sl 1 xs id] (l.length=32\/l.length=33) (.tup [z8 (Q5 (O3 l)),d9 (Z6 (O3 l))]):=⟨λhlen=>by
 have h:=hx.out;subst h;have hm:(dI l).length=l.length:=LB l;have hbig:33=l.length->O3 l=O3 (l.take 32)+256 ^ 32*(l.getD 32 0).toNat:=λh=>by
  have h1:=Lt (List.getElem?_eq_getElem (show 32<l.length by omega));rw[List.take_of_length_le om] at h1;rw[h1,getD_in om]
 refine ze func252 ntmps252 λ_ hs=>?_;repeat' first|refine O ?_|intro
 rename_i g2 g4;refine dY (g:=g4) (v:=Y6 0) (v':=Y6 (O3 (l.take 0))) (λok w cs h=>h) ?_;refine y9 (α:=Nat) (λi=>[(0,.sl 1 (dI l) id),(2,ptr g2),(4,ptr g4),(5,int i)]) (λi=>[.var g4 45 (Y6 (O3 (l.take (min i 32)))),.var g2 45 (Y6 0)])
  (λi=>i<=l.length/\(i=33->l.getD 32 0=0)) (λi=>l.length-i) 0 zc slr ⟨Nat.zero_le _,λh=>absurd h dc⟩ ?_
 rintro i ⟨hi,h33⟩;repeat' first|refine O ?_|intro
 refine w9 (λhlt=>?_) (λhlt=>?_)
 ·have hil:i<l.length:=om
  repeat' first|refine O ?_|intro
  by_cases h32:i=32
  ·subst h32;have hl33:33=l.length:=by omega
   have hb:=hbig hl33;repeat' first|refine Z ?_|intro
   refine w9 (λh0=>?_) (λh0=>?_)
   ·repeat' first|refine O ?_|intro
    refine j6 ?_;have hc:1<=(l.getD 32 0).toNat:=by rw[getD_in hil];omega
    have hbb:¬ O3 l<115792089237316195423570985008687907853269984665640564039457584007913129639936:=by
     have h1:256 ^ 32*1<=256 ^ 32*(l.getD 32 0).toNat:=Nat.mul_le_mul_left _ hc;have h2:(256:Nat) ^ 32*1=115792089237316195423570985008687907853269984665640564039457584007913129639936:=by decide
     omega
    rw[Ci hbb,show Z6 (O3 l)=false from dZ hbb];rfl
   repeat' first|refine Z ?_|intro
   refine o9 33 zc ?_ ⟨om,λ_=>by rw[getD_in hil];exact UInt8.toNat_inj.1 (by show _=0;omega)⟩ om;exact u7
  have hi32:i<32:=om
  have hr:((i:Int)%8)=((i%8:Nat):Int):=om
  have hby:=l[i].toNat_lt;have hps:=a1Y hil;have htop:lm (O3 (l.take i)) (i / 8)<256 ^ (i%8):=a3J XB;have hset:=Ye (n:=O3 (l.take i)) (m:=O3 (l.take (i+1))) (x:=lm (O3 (l.take i)) (i / 8)+256 ^ (i%8)*l[i].toNat) (show i / 8<4 by omega) (λj _=>hps j);rw[Nat.min_eq_left om];repeat' first|refine Z ?_|intro
  apply zf [];exact zi;intro _ _;refine O1 (i / 8) ?_;exact j3 (p9 rfl rfl);apply zf [0];exact zi;intro _ _;refine bV (j:=i / 8) (IV om) ?_;exact j3 (p9 rfl rfl);repeat' first|refine Yz ?_|intro
  rw[hr];repeat' first|refine Yz ?_|intro
  apply zf [];exact zi;intro _ _;refine a8U (i%8) ?_;exact j3 (p9 rfl rfl);apply zf [];exact zi;intro _ _;refine a9d ?_ rfl rfl htop hby om;exact j3 (p9 rfl rfl);repeat' first|refine Yz ?_|intro
  apply zf [];exact zi;intro _ _;refine O1 (i / 8) ?_;exact j3 (p9 rfl rfl);apply dH [0];exact rfl;exact rfl;kernel_rfl;intro _ _;refine kD (ps:=[u6 (lm (O3 (l.take i)) 0),u6 (lm (O3 (l.take i)) 1),u6 (lm (O3 (l.take i)) 2),u6 (lm (O3 (l.take i)) 3)]) (j:=i / 8) (show i / 8<4 by omega) ?_;exact j3 (dX rfl);exact rfl;exact rfl;rw[hset];repeat' first|refine Yz ?_|intro
  refine o9 (i+1) zc ?_ ⟨hil,λh=>absurd h om⟩ om;rw[Nat.min_eq_left om];exact u7
 obtain rfl:i=l.length:=by omega
 have hfin:O3 (l.take (min l.length 32))=O3 l:=by
  rcases hlen with h|h
  ·rw[Nat.min_eq_left om,List.take_length]
  rw[Nat.min_eq_right om,hbig h.symm,h33 h];rfl
 have hlt2:O3 l<115792089237316195423570985008687907853269984665640564039457584007913129639936:=by
  rw[<- hfin];refine Nat.lt_of_lt_of_le XB ?_;exact Nat.pow_le_pow_right (n:=256) (j:=32) dc om
 rw[hfin];repeat' first|refine O ?_|intro
 refine j6 ?_;rw[show Z6 (O3 l)=true from dT hlt2];show AV.tup [Y6 _,_]=.tup [Y6 _,_];rw[qD hlt2]⟩
theorem Rx (l:Bs)(c:UInt8):dI (l++[c])=dI l++[int (c.toNat:Int)]:=by
 unfold dI;rw[List.map_append];rfl
instance a5E {s:Bs}:Ans prog GL 338 [str s] (s.length<=1000000000) (.tup [z8 (if s.length=32 then Q5 (lT s) else wZ),int (if s.length=32 then 0 else 10)]):=⟨λhl=>by
 refine ze func338 ntmps338 λ_ hs=>?_;repeat' first|refine O ?_|intro
 refine w9 (λhne=>?_) (λhne=>?_)
 ·have h32:¬ s.length=32:=om
  repeat' first|refine O ?_|intro
  refine j6 ?_;rw[if_neg h32,if_neg h32];rfl
 have h32:s.length=32:=om
 repeat' first|refine O ?_|intro
 rename_i g2;refine Y4 4 (Imp.nil (k:=1)) ?_;refine P6 (λok w h=>h.full 3 1 none 0) ?_;refine y9 (α:=Nat × Value) (λq=>[(0,str s),(2,ptr g2),(3,int 0),(4,.sl 1 (dI (s.reverse.take (32-q.1))) (some q.2)),(5,int ((q.1:Int)-1))]) (λq=>[.tail 3 1 q.2,.var g2 45 (Y6 0)]) (λq=>q.1<=32) (λq=>q.1) (32,.slice none 0 0) zc zd (Nat.le_refl _) ?_;rintro⟨n,v⟩ hn;dsimp only at hn ⊢;rcases n with _|k
 ·rw[show 32-0=32 from rfl,List.take_of_length_le (by rw[List.length_reverse];omega)];have hrl:s.reverse.length=32\/s.reverse.length=33:=.inl (by rw[List.length_reverse];omega);repeat' first|refine Z ?_|intro
  refine j6 ?_;rw[if_pos h32,if_pos h32];rfl
 rw[show ((k+1:Nat):Int)-1=(k:Int) by omega];have hk:k<s.length:=by omega
 have hm:(s.reverse.take (32-(k+1))).length<=32:=by rw[List.length_take];omega
 have hm2:(dI (s.reverse.take (32-(k+1)))).length<=32:=by rw[LB];exact hm
 have e0:s.reverse[32-(k+1)]'(by rw[List.length_reverse];omega)=s[k]:=by
  rw[List.getElem_reverse];congr 1
  omega
 have e2:dI (s.reverse.take (32-k))=dI (s.reverse.take (32-(k+1)))++[int (s[k].toNat:Int)]:=by
  rw[show 32-k=32-(k+1)+1 by omega,List.take_succ_eq_append_getElem (by rw[List.length_reverse];omega),Rx,e0]
 repeat' first|refine Z ?_|intro
 have hby:=s[k].toNat_lt;refine vY k ?_ (List.getElem?_eq_getElem hk);repeat' first|refine Yz ?_|intro
 refine H7 (λv'=>?_);repeat' first|refine O ?_|intro
 rw[<- e2];refine o9 (k,v') zc ?_ (by dsimp only;omega) (Nat.lt_succ_self k);exact zd⟩
end
end Go.Proofs.Z

namespace Go.Proofs.Z
open Go Go.RowKit Tw Av
abbrev RS:={σ:Bs × Bool // σ.1.length<=1000000000}
def sT (c most:Int)(σ:RS):RS:=⟨(o8 c most σ.1.1 σ.1.2,F4 c most σ.1.1 σ.1.2),Nat.le_trans (aH c most σ.1.1 σ.1.2).1 σ.2⟩
def sI (c most:Int)(σ:RS):RS:=⟨(o8 c 8 σ.1.1 σ.1.2,N9 c most σ.1.1 σ.1.2),Nat.le_trans (aH c 8 σ.1.1 σ.1.2).1 σ.2⟩
def gT (c most:Int)(σ:RS):Bs:=G9 c most σ.1.1 σ.1.2
def gI (c most:Int)(σ:RS):Int:=L9 c most σ.1.1 σ.1.2
def gZ (σ:RS):Int:=U7 σ.1.1 σ.1.2
def A8 (σ:RS):AV:=F7 σ.1.1 σ.1.2
theorem FZ (c most:Int)(σ:RS):(gT c most σ).length<=1000000000:=Nat.le_trans (aH c most σ.1.1 σ.1.2).2 σ.2
theorem XT {c most:Int}{σ:RS}(h:0<=most):0<=gI c most σ/\gI c most σ<=most:=by
 unfold gI L9;split <;> omega
def I6 (s:Bs):RS:=if h:s.length<=1000000000 then ⟨(s,false),h⟩ else ⟨([],true),dc⟩
theorem Cb {s:Bs}(h:s.length<=1000000000):F7 s false=A8 (I6 s):=by
 unfold I6;rw[dif_pos h];rfl
def qB (σ:RS):RS:=sI 75 16 σ
def nC (σ:RS):RS:=sT 73 4000 (qB σ)
def sG (σ:RS):RS:=sT 79 4000 (nC σ)
def sF (σ:RS):RS:=sT 81 4000 (sG σ)
def sD (σ:RS):RS:=sT 82 4000 (sF σ)
def rZ (σ:RS):RS:=sT 89 4000 (sD σ)
def rY (σ:RS):RS:=sI 69 1099511627776 (rZ σ)
def rX (σ:RS):RS:=sT 99 4000 (rY σ)
def rW (σ:RS):RS:=sI 104 1099511627776 (rX σ)
def kM (σ:RS):RS:=sI 116 1099511627776 (rW σ)
def kK (σ:RS):RS:=sT 114 32 (kM σ)
def sW (σ:RS):RS:=sT 77 32 (kK σ)
def sV (σ:RS):RS:=sI 113 1099511627776 (sW σ)
def sU (σ:RS):RS:=sT 115 4000 (sV σ)
def sS (σ:RS):RS:=sT 107 4000 (sU σ)
def kJ (σ:RS):RS:=sT 100 4000 (sS σ)
def sP (σ:RS):RS:=sT 97 32 (kJ σ)
def sO (σ:RS):RS:=sT 102 4000 (sP σ)
def sN (σ:RS):RS:=sT 103 4000 (sO σ)
def sM (σ:RS):RS:=sI 117 1099511627776 (sN σ)
def sK (σ:RS):RS:=sI 118 1099511627776 (sM σ)
def sJ (σ:RS):RS:=sT 65 4000 (sK σ)
def kI (σ:RS):RS:=sI 84 1099511627776 (sJ σ)
def kH (σ:RS):RS:=sT 70 4000 (kI σ)
def sH (σ:RS):RS:=sT 71 4000 (kH σ)
def IK (σ:RS):Bs:=gT 114 32 (kM σ)
def IM (σ:RS):Bs:=gT 77 32 (kK σ)
def IQ (σ:RS):Bs:=gT 97 32 (kJ σ)
def IL (σ:RS):Bs:=gT 70 4000 (kI σ)
def IP (σ:RS):Bs:=gT 71 4000 (kH σ)
def wV (b:Bs):Wd:=if b.length=32 then Q5 (lT b) else wZ
def EH (σ:RS):TxX:=
 ⟨gI 75 16 σ,gT 73 4000 (qB σ),gT 79 4000 (nC σ),gT 81 4000 (sG σ),gT 82 4000 (sF σ),gT 89 4000 (sD σ),gI 69 1099511627776 (rZ σ),
  ⟨gT 99 4000 (rY σ),gI 104 1099511627776 (rX σ),gI 116 1099511627776 (rW σ),W9 (IK σ)⟩,W9 (IM σ),
  ⟨gI 113 1099511627776 (sW σ),gT 115 4000 (sV σ),gT 107 4000 (sU σ),gT 100 4000 (sS σ),wV (IQ σ),gT 102 4000 (sP σ),gT 103 4000 (sO σ),gI 117 1099511627776 (sN σ),gI 118 1099511627776 (sM σ)⟩,
  gT 65 4000 (sK σ),gI 84 1099511627776 (sJ σ),jH (IL σ),nI (IP σ)⟩
def uP (σ:RS):Bool:=decide ((IK σ).length=32)&&(decide ((IM σ).length=32)&&(decide ((IQ σ).length=32)&&(decide (fG (IL σ)=0)&&(decide (mG (IP σ)=0)&&decide (gZ (sH σ)=0)))))
def Y5:TxX:=⟨0,[],[],[],[],[],0,SV,E9,Xp,[],0,eD,pX⟩
def K6 (σ:RS):TxX:=if uP σ=true then EH σ else Y5
def aG (σ:RS):Int:=if uP σ=true then 0 else 10
def F8 (x:TxX):Bs:=
 D7 75 x.k++r9 73 x.i++r9 79 x.o++r9 81 x.p++r9 82 x.q++r9 89 x.y++D7 69 x.e++r9 99 x.h.c++D7 104 x.h.h++D7 116 x.h.t++r9 114 x.h.r.l++r9 77 x.m.l
 ++ D7 113 x.x.q++r9 115 x.x.s++r9 107 x.x.k++r9 100 x.x.d++r9 97 (bT x.x.a.n)++r9 102 x.x.f++r9 103 x.x.g++D7 117 x.x.h++D7 118 x.x.t
 ++ r9 65 x.a++D7 84 x.t++r9 70 (aR x.f)++r9 71 (mW x.g)
end Go.Proofs.Z

namespace Go.Proofs.Z
open Go Go.RowKit Tw Av Go.Proofs.Tryz
section
variable {p s:Bs}
def dM (s:Bs):Nat:=s.findIdx λc=>decide (c=47)
theorem Mv :dM s<s.length↔lH s=false:=by
 unfold dM lH;rw[List.findIdx_lt_length]
 constructor
 ·rintro⟨x,hx,h⟩;rw[List.all_eq_false];exact⟨x,hx,by simpa using h⟩
 intro h;rw[List.all_eq_false] at h;obtain⟨x,hx,h⟩:=h;exact⟨x,hx,by simpa using h⟩
def rM (s:Bs):Int:=if dM s<s.length then (dM s:Int) else -1
theorem a4q (s:Bs):Lib.indexByte s 47=rM s:=by
 induction s with
 | nil=>rfl
 | cons c s ih=>
  rw[Lib.indexByte,ih];unfold rM dM;rw[List.findIdx_cons,List.length_cons];by_cases h:c=47
  ·subst h;simp
  have h2:(c == 47)=false:=by simpa using h
  rw[h2,dZ h];simp only[Bool.false_eq_true,if_false,cond_false];generalize s.findIdx (λc=>decide (c=47))=k;by_cases hk:k<s.length
  ·have h3:(((k:Nat):Int) == -1)=false:=by
    rw[beq_eq_false_iff_ne];omega
   have h4:k+1<s.length+1:=om
   simp only[if_pos hk,if_pos h4,h3];simp
  have h4:¬ k+1<s.length+1:=om
  simp only[if_neg hk,if_neg h4];rfl
theorem a1c (s:Bs)(w:World):(Extern.BytealgIndexByte.indexByte #[sv s,.int .u8 47]).run prog w=.ok (.int .i64 (rM s)) w:=by
 have h:=Lib.run_indexByteString (P:=prog) ⟨s.toArray⟩ 47 w;rw[show (47:Int).toNat.toUInt8=47 from rfl,a4q] at h;exact h
instance c0o :Ans prog GL 450 [str s,.lit (y5 47)] True (int (rM s)):=⟨λ_=>by
 refine ze func450 ntmps450 λ_ hs=>?_;repeat' first|refine O ?_|intro
 apply DY (v:=int (rM s)) func474;kernel_rfl;exact rfl;kernel_rfl;kernel_rfl;exact rfl;exact rfl;exact rfl
 ·rintro ok w cs _ ⟨u1,us,rfl,h1,u2,us2,rfl,h2,rfl⟩;rw[RV0.lit h1,RV0.lit h2];exact⟨_,a1c s _,RVl rfl⟩
 exact J7⟩
instance c0n :Ans prog GL 408 [str s,str [47]] True (int (rM s)):=⟨λ_=>by
 refine ze func408 ntmps408 λ_ hs=>?_;repeat' first|refine Z ?_|intro
 refine w9 (λh=>?_) (λh=>?_)
 ·repeat' first|refine Z ?_|intro
  refine j6 ?_;rw[<- h];rfl
 have h1:([47]:Bs).length=1:=rfl;exact Z5⟩
instance c0p :Ans prog GL 357 [str s,str [47]] True (int (rM s)):=⟨λ_=>by
 refine ze func357 ntmps357 λ_ hs=>?_;exact J7⟩
instance c0R :Ans prog GL 285 [str s,str [47]] True (d9 (!lH s)):=⟨λ_=>by
 refine ze func285 ntmps285 λ_ hs=>?_;repeat' first|refine O ?_|intro
 refine j6 ?_;have h:decide (0<=rM s)=!lH s:=by
  unfold rM;by_cases h:dM s<s.length
  ·rw[if_pos h,Mv.1 h];exact dT om
  rw[if_neg h];have hn:lH s=true:=by
   cases hh:lH s
   ·exact absurd (Mv.2 hh) h
   rfl
  rw[hn];rfl
 show d9 _=_;rw[h]⟩
instance c0u :Ans prog GL 479 [str s,str p] True (d9 (decide (s.take p.length=p))):=⟨λ_=>by
 refine ze func479 ntmps479 λ_ hs=>?_;repeat' first|refine O ?_|intro
 refine X0 (λh=>?_) (λh=>?_)
 ·repeat' first|refine O ?_|intro
  refine Z4 0 p.length ?_;exact J7
 repeat' first|refine Z ?_|intro
 refine j6 ?_;have:¬ s.take p.length=p:=λe=>by
  have h2:=congrArg List.length e;rw[List.length_take] at h2;omega
 rw[dZ this];rfl⟩
instance c0P :Ans prog GL 459 [str s,str p] True (.tup [str (if s.take p.length=p then s.drop p.length else s),d9 (decide (s.take p.length=p))]):=⟨λ_=>by
 refine ze func459 ntmps459 λ_ hs=>?_;repeat' first|refine O ?_|intro
 refine w9 (λh=>?_) (λh=>?_)
 ·repeat' first|refine O ?_|intro
  refine j6 ?_;rw[if_neg h,dZ h];rfl
 have h':s.take p.length=p:=Classical.not_not.1 h;have hl:p.length<=s.length:=by
  have h2:=congrArg List.length h';rw[List.length_take] at h2;omega
 repeat' first|refine O ?_|intro
 refine Z4 p.length s.length ?_;repeat' first|refine O ?_|intro
 refine j6 ?_;rw[if_pos h',dT h',List.take_length];rfl⟩
instance c0Q :Ans prog GL 419 [str s,str p] True (.tup [str (if s.take p.length=p then s.drop p.length else s),d9 (decide (s.take p.length=p))]):=⟨λ_=>by
 refine ze func419 ntmps419 λ_ hs=>?_;exact J7⟩
end

section
variable {s:Bs}
theorem Bl {N:Nat}{Q:Exit->Act->World->Prop}{s:Av.Base}{e:Av.Env}{m:List Av.Piece}{ds:List Deferred}(h:AED N ds .ret Q s e m):AED N ds .ret (Exit.noGoto Q) s e m:=h
theorem a8s {P:Program}{N L:Nat}{Q:Exit->Act->World->Prop}{s:Av.Base}{e:Av.Env}{m:List Av.Piece}{c:Operand}{x y:Code}{b:Bool}(hc:Av.ev e c=some (.lit (.bool (!b))))(h1:b=true->BC P N L y Q s e m)(h2:b=false->BC P N L x Q s e m):BC P N L (.cond c x y) Q s e m:=by
 cases b
 ·exact GV (h2 rfl) hc
 exact GX (h1 rfl) hc
theorem a4C {Q:Exit->Act->World->Prop}{id:Nat}{a:Act}{w:World}(h:Q .normal a w):Exit.inBlock id Q (.exit id) a w:=by
 simp only[Exit.inBlock,if_true];exact h
theorem Mx :dM (47::s)=0:=by
 unfold dM;rw[List.findIdx_cons];rfl
theorem Mw {c:UInt8}(h:c≠47):dM (c::s)=dM s+1:=by
 unfold dM;rw[List.findIdx_cons,dZ h];rfl
theorem Dv:∀ {s:Bs},dM s<s.length->F5 s=s.take (dM s)::F5 (s.drop (dM s+1))
 | [],h=>by simp at h
 | c::s,h=>by
  by_cases hc:c=47
  ·subst hc;rw[Mx,F5,if_pos rfl];rfl
  rw[Mw hc] at h ⊢;rw[F5,if_neg hc,Dv (s:=s) (by simpa using h)];rfl
theorem Du:∀ {s:Bs},¬ dM s<s.length->F5 s=[s]
 | [],_=>rfl
 | c::s,h=>by
  by_cases hc:c=47
  ·subst hc;rw[Mx] at h;simp at h
  rw[Mw hc] at h;rw[F5,if_neg hc,Du (s:=s) (by simpa using h)];rfl
abbrev bR (gs gp gv:Nat)(s:Bs):List Av.Piece:=[.var gv 3 (int 0),.var gp 9 (str [47]),.var gs 9 (str s)]
theorem a0s :Av.Spec prog GL 282 [str s,str [47]] [] λu m=>∃ gs gp gv,u=E5 406 [.pointer (some ⟨gp,0,none⟩),.pointer (some ⟨gs,0,none⟩),.pointer (some ⟨gv,0,none⟩)]/\m=bR gs gp gv s:=by
 have h1:Av.Spec prog GL 354 [str s,str [47],int 0] [] λu m=>∃ gs gp gv,u=E5 406 [.pointer (some ⟨gp,0,none⟩),.pointer (some ⟨gs,0,none⟩),.pointer (some ⟨gv,0,none⟩)]/\m=bR gs gp gv s:=by
  refine ze func354 ntmps354 λ_ hs=>?_;repeat' first|refine O ?_|intro
  rename_i gs gp gv;refine Y3 (vs:=[.pointer (some ⟨gp,0,none⟩),.pointer (some ⟨gs,0,none⟩),.pointer (some ⟨gv,0,none⟩)]) ?_;repeat' first|refine O ?_|intro
  refine l9 _ ⟨gs,gp,gv,rfl,rfl⟩ ?_;exact List.Sublist.refl _
 refine ze func282 ntmps282 λ_ hs=>?_;repeat' first|refine O ?_|intro
 refine H6 (args:=[str s,str [47],int 0]) [] _ (by rw[hs];exact h1) (λu m1 hh=>?_) lpr;obtain⟨gs,gp,gv,rfl,rfl⟩:=hh;repeat' first|refine O ?_|intro
 refine l9 _ ⟨gs,gp,gv,rfl,rfl⟩ ?_;exact u7
theorem a0r {ok0:Ok}{w0:World}{L gs gp gv:Nat}{J:List Bs->List Av.Piece}{G:List Bs->Prop}{B:List Bs->List Av.Piece->Prop}
  (hY:∀ pre x,G pre->pre++[x] <+: F5 s->Yld prog GL ok0 w0 L [str x] (J pre) λv m'=>(v=d9 true/\G (pre++[x])/\m'=J (pre++[x]))\/(v=d9 false/\B (pre++[x]) m')) (hG:G []) (hl:s.length<=1000000000) {ok:Ok} {w:World} (hw:Stp ok0 w0 ok w) (hS:St (Y0 GL (bR gs gp gv s++J []) ok w) ok (bR gs gp gv s++J []) w) :
  Calls prog 406 #[.func (.yield L) #[] #[],.pointer (some ⟨gp,0,none⟩),.pointer (some ⟨gs,0,none⟩),.pointer (some ⟨gv,0,none⟩)] w (Back (Y0 GL (bR gs gp gv s++J []) ok w) λ_ m'=>∃ r,(G (F5 s)/\m'=bR gs gp gv r++J (F5 s))\/∃ pre mx,pre <+: F5 s/\B pre mx/\m'=bR gs gp gv r++mx):=by
 refine Tz (gl:=GL) (m:=bR gs gp gv s++J []) (args:=[yv L,ptr gp,ptr gs,ptr gv]) (cargs:=[.func (.yield L) #[] #[],.pointer (some ⟨gp,0,none⟩),.pointer (some ⟨gs,0,none⟩),.pointer (some ⟨gv,0,none⟩)]) func406 rfl ntmps406 rfl hS ⟨_,_,rfl,RV0.of_lit rfl,_,_,rfl,RV0.of_lit rfl,_,_,rfl,RV0.of_lit rfl,_,_,rfl,RV0.of_lit rfl,rfl⟩ ?_;have hsw:Stp ok0 w0 (Y0 GL (bR gs gp gv s++J []) ok w).ok (Y0 GL (bR gs gp gv s++J []) ok w).w:=hw;have hs:(Y0 GL (bR gs gp gv s++J []) ok w).gl=GL:=rfl;generalize Y0 GL (bR gs gp gv s++J []) ok w=sB at hsw hs ⊢;clear hS;repeat' first|refine Yz ?_|intro
 rw[dZ (show ¬ ((([47]:Bs).length:Nat):Int)=0 by decide)];repeat' first|refine Yz ?_|intro
 refine y9 (α:=List Bs × Bs) (λq=>[(0,yv L),(1,ptr gp),(2,ptr gs),(3,ptr gv)]) (λq=>bR gs gp gv q.2++J q.1) (λq=>F5 s=q.1++F5 q.2/\G q.1/\q.2.length<=s.length) (λq=>q.2.length) ([],s) zc slr ⟨rfl,hG,Nat.le_refl _⟩ ?_;rintro⟨pre,r⟩ ⟨h1,h2,h3⟩;dsimp only at h1 h2 h3 ⊢;refine Bt ?_;repeat refine rU ?_
 refine BI ?_;repeat' (first|refine K3 ?_|refine J8 ?_|refine M9 ?_|intro _|simp only[List.set]|fail)
 refine j3 (pV ?_);repeat refine rU ?_
 refine BI ?_;repeat' (first|refine K3 ?_|refine J8 ?_|refine M9 ?_|intro _|simp only[List.set]|fail)
 refine j3 (pV ?_);repeat refine rU ?_
 by_cases hi:dM r<r.length
 ·have e1:rM r=dM r:=by unfold rM;rw[if_pos hi]
  rw[e1];refine wW ?_;refine SL ?_;refine pV ?_;repeat refine rU ?_
  refine BI ?_;have e2:F5 s=pre++[r.take (dM r)]++F5 (r.drop (dM r+1)):=by rw[h1,Dv hi,laa];rfl
  repeat' (first|refine K3 ?_|refine J8 ?_|refine M9 ?_|intro _|simp only[List.set]|fail)
  refine Z4 0 (dM r) ?_;repeat' (first|refine K3 ?_|refine J8 ?_|refine M9 ?_|intro _|simp only[List.set]|fail)
  refine j3 (pV ?_);repeat refine rU ?_
  refine Bp ?_;refine Bj (α:=Unit) (λ_=>[(39,yv L),(40,str (r.take (dM r))),(7,int (dM r)),(0,yv L),(1,ptr gp),(2,ptr gs),(3,ptr gv)]) (λ_=>bR gs gp gv r++J pre) ?_ (λ_=>?_) (pre:=[_,_])
  ·repeat' (first|refine K3 ?_|refine J8 ?_|refine M9 ?_|intro _|simp only[List.set]|fail)
   exact j3 (aZ () (by rw[List.drop_zero];exact zc) slr)
  refine Bi (J pre) (bR gs gp gv r) (by rw[hs];exact hY pre _ h2 ⟨_,e2.symm⟩) hsw (λv m1' hv=>?_) List.perm_append_comm;refine Xg ?_;refine fF (λok w hS=>hS.perm (m':=bR gs gp gv r++m1') List.perm_append_comm) ?_;rcases hv with⟨rfl,h4,rfl⟩|⟨rfl,h4⟩
  rotate_left
  ·repeat' first|refine Yz ?_|intro
   refine l9 (bR gs gp gv r++m1') ⟨r,.inr ⟨_,m1',⟨_,e2.symm⟩,h4,rfl⟩⟩ slr
  have hl1:([47]:Bs).length=1:=rfl;repeat' first|refine Yz ?_|intro
  refine Z4 (dM r+1) r.length ?_;rw[List.take_length];repeat' first|refine Yz ?_|intro
  refine o9 (pre++[r.take (dM r)],r.drop (dM r+1)) zc slr ⟨e2,h4,by simp;omega⟩ (by simp;omega)
 have e1:rM r=-1:=by unfold rM;rw[if_neg hi]
 have e2:F5 s=pre++[r]:=by rw[h1,Du hi]
 rw[e1];refine uL ?_;refine Xl ?_;repeat' (first|refine SA ?_|refine SB ?_|refine Bo ?_|refine pV ?_)
 refine Bp ?_;refine Bj (α:=Unit) (λ_=>[(49,yv L),(50,str r)]) (λ_=>bR gs gp gv r++J pre) ?_ (λ_=>?_) (pre:=[_,_])
 ·repeat' (first|refine K3 ?_|refine J8 ?_|refine M9 ?_|intro _|simp only[List.set]|fail)
  exact j3 (aZ () zc slr)
 refine Bi (J pre) (bR gs gp gv r) (by rw[hs];exact hY pre _ h2 (by rw[e2];exact List.prefix_refl _)) hsw (λv m1' hv=>?_) List.perm_append_comm;refine b0q ?_;refine wB (λok w hS=>hS.perm (m':=bR gs gp gv r++m1') List.perm_append_comm) ?_;rcases hv with⟨rfl,h4,rfl⟩|⟨rfl,h4⟩
 ·exact EC rfl vC (.inr rfl) ⟨r,.inl ⟨by rw[e2];exact h4,by rw[e2]⟩⟩ slr
 exact EC rfl vC (.inr rfl) ⟨r,.inr ⟨_,m1',by rw[e2];exact List.prefix_refl _,h4,rfl⟩⟩ slr
theorem a6V {x:Bs}{g:Nat}{n:Int}(_:x.length<=1000000000)(hn:0<=n/\n<=1000000000):Av.Spec prog GL 281 [str x,ptr g] [.var g 3 (int n)] λu m=>u=d9 (J6 x&&decide (n+1<=5))/\m=[.var g 3 (int (n+1))]:=by
 refine ze func281 ntmps281 λ_ hs=>?_;repeat' first|refine Yz ?_|intro
 cases h:J6 x
 ·repeat' first|refine Yz ?_|intro
  refine l9 _ ⟨rfl,rfl⟩ ?_;exact u7
 repeat' first|refine Yz ?_|intro
 refine l9 _ ⟨rfl,rfl⟩ ?_;exact u7
theorem a2t {α:Type}{a:List α}{l n e r d:α}:(a++[l,n,e,r,d]++[]).Perm (l::d::(a++[e,r,n])):=by
 rw[List.append_nil];refine List.perm_append_comm.trans (List.Perm.trans ?_ (((List.perm_append_comm (l₁:=[e,r,n]) (l₂:=a)).cons d).cons l));refine List.Perm.cons _ ?_;exact(List.Perm.swap e n _).trans (((List.Perm.swap r n _).cons e).trans ((((List.Perm.swap d n _).cons r).cons e).trans (((List.Perm.swap d r _).cons e).trans (List.Perm.swap d e _))))
instance b6w :Ans prog GL 191 [str s] (s.length<=1000000000) (d9 (bD s)):=⟨λhl=>by
 refine TZ func191 rfl ntmps191 rfl (λsB hs=>?_);repeat' first|refine Yz ?_|intro
 rename_i gn gr;refine Y3 (vs:=[.pointer (some ⟨gn,0,none⟩)]) ?_;repeat' first|refine Yz ?_|intro
 refine H6 (args:=[str s,str [47]]) [] _ (by rw[hs];exact a0s) (λu m1 hh=>?_) lpr;obtain⟨gs,gp,gv,rfl,rfl⟩:=hh;repeat' first|refine Yz ?_|intro
 rename_i ge;have hG0:([]:List Bs).all J6=true/\([]:List Bs).length<=5:=⟨rfl,dc⟩;refine Bq (gf:=406) (lb:=[.pointer (some ⟨gp,0,none⟩),.pointer (some ⟨gs,0,none⟩),.pointer (some ⟨gv,0,none⟩)]) (by simp[Value.oneCell']) (λok w a fn hS ha ok1 w1 st1 hS1 ha1=>?_);generalize hr0:zU fn a _ _ _ w=r0 at hS1 ⊢;have e1:r0.state=.ready:=by rw[<- hr0]
 have e2:r0.pending=none:=by rw[<- hr0]
 have e3:r0.tmps=a.tmps:=by rw[<- hr0]
 have e4:r0.params=#[13]:=by rw[<- hr0]
 have e5:{ { r0 with state:=.busy } with state:=.ready,pending:=none }=r0:=by rw[<- hr0]
 generalize hD:w.heap.size=D at hS1 ⊢;have hS2:=hS1.perm (m':=(bR gs gp gv s++[.obj (D+1) (.loop r0),.var gn 3 (int 0),.var ge 228 (E5 281 [.pointer (some ⟨gn,0,none⟩)]),.var gr 4 (d9 (decide (((s.length:Nat):Int)<=200))),.obj D (.deferred (some []))])++[]) a2t;have hIt:=a0r (ok0:=ok1) (w0:=w1) (L:=D+1) (gs:=gs) (gp:=gp) (gv:=gv) (s:=s)
  (J:=λpre=>[.obj (D+1) (.loop r0),.var gn 3 (int pre.length),.var ge 228 (E5 281 [.pointer (some ⟨gn,0,none⟩)]),.var gr 4 (d9 (decide (((s.length:Nat):Int)<=200))),.obj D (.deferred (some []))])
  (G:=λpre=>pre.all J6=true/\pre.length<=5)
  (B:=λpre m'=>¬ (pre.all J6=true/\pre.length<=5)/\m'=[.obj (D+1) (.loop { { r0 with state:=.busy } with state:=.done,pending:=some (.exit 0) }),.var gn 3 (int pre.length),.var ge 228 (E5 281 [.pointer (some ⟨gn,0,none⟩)]),.var gr 4 (d9 false),.obj D (.deferred (some []))])
  (λpre x hG hpx=>?_) hG0 hl (Stp.refl _ _) (by rw[<- hs];exact hS2.lend)
 rotate_left
 ·have hxm:x∈F5 s:=hpx.subset sm;have hxl:x.length<=1000000000:=Nat.le_trans (TW hxm) hl;have e6:=congrArg Loop.assign hr0.symm;have e7:=congrArg Loop.body hr0.symm;dsimp only at e6 e7;refine SX (N:=19) (p:=13) ha1 e3 e4 rfl (λs2 hs2=>?_);rw[e6,e7];refine pM ?_;repeat' (first|refine K3 ?_|refine J8 ?_|refine M9 ?_|intro _|simp only[]|fail)
  refine j3 (Ak lpr e1 ?_);refine RB (nY (pM ?_));repeat' (first|refine K3 ?_|refine J8 ?_|refine M9 ?_|intro _|simp only[List.set]|fail)
  refine gU (args:=[str x]) (cs:=[.pointer (some ⟨gn,0,none⟩)]) [.var gn 3 (int pre.length)] [.obj (D+1) (.loop { r0 with state:=.busy }),.var ge 228 (E5 281 [.pointer (some ⟨gn,0,none⟩)]),.var gr 4 (d9 (decide (((s.length:Nat):Int)<=200))),.obj D (.deferred (some []))] (by rw[hs2];exact a6V hxl ⟨om,by have:=hG.2;omega⟩) (λu m1 hh=>?_) (List.Perm.swap _ _ _);obtain⟨rfl,rfl⟩:=hh;repeat' (first|refine K3 ?_|refine J8 ?_|refine M9 ?_|intro _|simp only[List.set]|fail)
  refine j3 (jB (a8s (b:=J6 x&&decide (((pre.length:Nat):Int)+1<=5)) rfl (λhb=>?_) (λhb=>?_)))
  ·refine LQ (wC (yO (r:={ r0 with state:=.busy }) (m1:=[.var gn 3 (int (((pre.length:Nat):Int)+1)),.var ge 228 (E5 281 [.pointer (some ⟨gn,0,none⟩)]),.var gr 4 (d9 (decide (((s.length:Nat):Int)<=200))),.obj D (.deferred (some []))]) (List.Perm.swap _ _ _) (.inl ⟨rfl,?_,?_⟩)))
   ·rw[bet,decide_eq_true_iff] at hb;rw[List.all_append,hG.1];refine⟨by simp[hb.1],?_⟩;rw[lla,List.length_singleton];omega
   rw[e5,show (((pre++[x]).length:Nat):Int)=((pre.length:Nat):Int)+1 by simp]
  refine nY (pM ?_);repeat' (first|refine K3 ?_|refine J8 ?_|refine M9 ?_|intro _|simp only[List.set]|fail)
  refine j3 (jB (Al (Bo (b0t (r:={ r0 with state:=.busy }) (m1:=[.var gn 3 (int (((pre.length:Nat):Int)+1)),.var ge 228 (E5 281 [.pointer (some ⟨gn,0,none⟩)]),.var gr 4 (d9 false),.obj D (.deferred (some []))]) (List.Perm.swap _ _ _) (.inr ⟨rfl,?_,?_⟩)))))
  ·rintro⟨h1,h2⟩;rw[List.all_append,bet] at h1;rw[lla,List.length_singleton] at h2;have h3:J6 x=true:=by simpa using h1.2
   rw[h3,Bool.true_and] at hb;have:=of_decide_eq_false hb;omega
  rw[show (((pre++[x]).length:Nat):Int)=((pre.length:Nat):Int)+1 by simp];dsimp only;rw[e6,e7]
 refine Calls.mono hIt λx w2 hx=>?_;obtain⟨v,m',ok',cv,⟨r,hK⟩,rfl,hv,hSt⟩:=hx;have hSt':=hS2.back (fr:=[]) (by rw[hs];exact hSt);rw[List.append_nil] at hSt';have hmk:wP w=[{ target:=.collected D,args:=#[] }]:=by rw[<- hD]
 rcases hK with⟨⟨g1,g2⟩,rfl⟩|⟨pre,mx,hp,⟨hn,rfl⟩,rfl⟩
 ·refine⟨cv,ok',r0,_,rfl,by rw[e1];decide,hSt'.perm List.perm_middle.symm,hSt.stp,λok3 w3 hS3 st3=>?_⟩;rw[e2,hmk];dsimp only;refine(?_:AED 19 [{ target:=.collected D,args:=#[] }] .normal _ sB _ _) ok3 w3 a hS3 (((ha.stp st1).stp hSt.stp).stp st3);refine Bn ?_;refine BH (SF (SK (α:=Unit) (λ_=>[(2,d9 (decide (((s.length:Nat):Int)<=200)))]) (λ_=>.obj (D+1) (.loop { r0 with state:=.exhausted })::(bR gs gp gv r++[.var gn 3 (int (F5 s).length),.var ge 228 (E5 281 [.pointer (some ⟨gn,0,none⟩)]),.var gr 4 (d9 (decide (((s.length:Nat):Int)<=200))),.obj D (.deferred (some []))])) ?_ (λ_=>?_)))
  ·repeat' (first|refine K3 ?_|refine J8 ?_|refine M9 ?_|intro _|simp only[List.set]|fail)
   exact j3 (aZ () zc slr)
  refine BH (SH (Bl ?_));refine RZ (D:=D) (m1:=.obj (D+1) (.loop { r0 with state:=.exhausted })::(bR gs gp gv r++[.var gn 3 (int (F5 s).length),.var ge 228 (E5 281 [.pointer (some ⟨gn,0,none⟩)]),.var gr 4 (d9 (decide (((s.length:Nat):Int)<=200)))])) rfl ?_ (zH (zI rfl rfl) vC) (.inl rfl) ⟨?_,rfl⟩ (List.nil_sublist _)
  ·exact List.perm_append_singleton _ (.obj (D+1) (.loop { r0 with state:=.exhausted })::(bR gs gp gv r++[.var gn 3 (int (F5 s).length),.var ge 228 (E5 281 [.pointer (some ⟨gn,0,none⟩)]),.var gr 4 (d9 (decide (((s.length:Nat):Int)<=200)))]))
  unfold bD;rw[g1,dT g2];rw[show decide (((s.length:Nat):Int)<=200)=decide (s.length<=200) from decide_eq_decide.2 om];simp[D8]
 refine⟨cv,ok',{ { r0 with state:=.busy } with state:=.done,pending:=some (.exit 0) },_,rfl,(λh=>by cases h),hSt'.perm List.perm_middle.symm,hSt.stp,λok3 w3 hS3 st3=>?_⟩;rw[hmk];refine wp_exit ?_;refine a4C ?_;refine(?_:AED 19 [{ target:=.collected D,args:=#[] }] .normal _ sB _ _) ok3 w3 a hS3 (((ha.stp st1).stp hSt.stp).stp st3);refine BH (SF (SK (α:=Unit) (λ_=>[(2,d9 false)]) (λ_=>.obj (D+1) (.loop { { { r0 with state:=.busy } with state:=.done,pending:=some (.exit 0) } with state:=.exhausted })::(bR gs gp gv r++[.var gn 3 (int pre.length),.var ge 228 (E5 281 [.pointer (some ⟨gn,0,none⟩)]),.var gr 4 (d9 false),.obj D (.deferred (some []))])) ?_ (λ_=>?_)))
 ·repeat' (first|refine K3 ?_|refine J8 ?_|refine M9 ?_|intro _|simp only[]|fail)
  exact j3 (aZ () zc slr)
 refine BH (SH (Bl ?_));refine RZ (D:=D) (m1:=.obj (D+1) (.loop { { { r0 with state:=.busy } with state:=.done,pending:=some (.exit 0) } with state:=.exhausted })::(bR gs gp gv r++[.var gn 3 (int pre.length),.var ge 228 (E5 281 [.pointer (some ⟨gn,0,none⟩)]),.var gr 4 (d9 false)])) rfl ?_ (zH (zI rfl rfl) vC) (.inl rfl) ⟨?_,rfl⟩ (List.nil_sublist _)
 ·exact List.perm_append_singleton _ (.obj (D+1) (.loop { { { r0 with state:=.busy } with state:=.done,pending:=some (.exit 0) } with state:=.exhausted })::(bR gs gp gv r++[.var gn 3 (int pre.length),.var ge 228 (E5 281 [.pointer (some ⟨gn,0,none⟩)]),.var gr 4 (d9 false)]))
 have hd:bD s=false:=by
  by_cases h1:(F5 s).all J6=true/\(F5 s).length<=5
  ·refine(hn ⟨?_,Nat.le_trans hp.length_le h1.2⟩).elim;rw[List.all_eq_true] at h1 ⊢;exact λy hy=>h1.1 y (hp.subset hy)
  unfold bD;cases h2:(F5 s).all J6
  ·simp
  have:¬ (F5 s).length<=5:=λh=>h1 ⟨h2,h⟩;simp[this]
 rw[hd];rfl⟩
end
end Go.Proofs.Z
