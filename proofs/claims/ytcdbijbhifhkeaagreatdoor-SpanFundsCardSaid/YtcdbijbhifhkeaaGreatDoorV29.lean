/- . -/
import Derived.RangeFuncRecord
import Derived.OrdersIn
import Derived.RangeFuncLeaves
import Derived.RangeFuncSeq
import Derived.Test.YtcdbijbhifhkeaaGreatDoorV28
set_option maxHeartbeats 64000000
namespace Go.Proofs.Z
open Go Go.RowKit Tw Av Go.Proofs.Tryz
abbrev dI (l:Bs):List AV:=l.map λc=>int (c.toNat:Int)
class DIs (xs:List AV)(l:outParam Bs):Prop where
 out:xs=dI l
instance {l:Bs}:DIs (dI l) l:=⟨rfl⟩
theorem We (l:Bs):(dI l).length=l.length:=llm _
theorem Aa {l:Bs}{i:Nat}:Q9 (l.take i)<256 ^ i:=by
 have h:=KA (l.take i);refine Nat.lt_of_lt_of_le h (Nat.pow_le_pow_right dc ?_);rw[List.length_take];omega
theorem a1k {n m i:Nat}{x:Nat}(hi:i<4)(h:∀ j,j<4->lm m j=if j=i then x else lm n j):[u6 (lm n 0),u6 (lm n 1),u6 (lm n 2),u6 (lm n 3)].set i (u6 x)=[u6 (lm m 0),u6 (lm m 1),u6 (lm m 2),u6 (lm m 3)]:=by
 have h0:=h 0 om;have h1:=h 1 om;have h2:=h 2 om;have h3:=h 3 om;rw[h0,h1,h2,h3];rcases i with _|_|_|_|i <;> first|rfl|omega
theorem a4j {l:Bs}{i:Nat}(hi:i<l.length)(j:Nat):lm (Q9 (l.take (i+1))) j=if j=i / 8 then lm (Q9 (l.take i)) (i / 8)+256 ^ (i%8)*l[i].toNat else lm (Q9 (l.take i)) j:=by
 rw[Qe (List.getElem?_eq_getElem hi),a6l Aa l[i].toNat_lt];split
 ·rename_i h;rw[h]
 rfl
instance c0Q {l:Bs}{xs:List AV}{id:Option Value}[hx:DIs xs l]:Ans prog GL 115 [.sl 1 xs id] (l.length=32\/l.length=33) (.tup [G6 (H9 (Q9 l)),d9 (lK (Q9 l))]):=⟨λhlen=>by
 have h:=hx.out;subst h;have hm:(dI l).length=l.length:=We l;have hbig:33=l.length->Q9 l=Q9 (l.take 32)+256 ^ 32*(l.getD 32 0).toNat:=λh=>by
  have h1:=Qe (List.getElem?_eq_getElem (show 32<l.length by omega));rw[List.take_of_length_le om] at h1;rw[h1,getD_in om]
 refine zc func115 ntmps115 λ_ hs=>?_;repeat' first|refine Vz ?_|intro
 rename_i g2 g4;refine jK (g:=g4) (v:=aD 0) (v':=aD (Q9 (l.take 0))) (λok w cs h=>h) ?_;refine H7 (α:=Nat) (λi=>[(0,.sl 1 (dI l) id),(2,ptr g2),(4,ptr g4),(5,int i)]) (λi=>[.var g4 39 (aD (Q9 (l.take (min i 32)))),.var g2 39 (aD 0)])
  (λi=>i<=l.length/\(i=33->l.getD 32 0=0)) (λi=>l.length-i) 0 za slr ⟨Nat.zero_le _,λh=>absurd h dc⟩ ?_
 rintro i ⟨hi,h33⟩;repeat' first|refine Vz ?_|intro
 refine G7 (λhlt=>?_) (λhlt=>?_)
 ·have hil:i<l.length:=om
  repeat' first|refine Vz ?_|intro
  by_cases h32:i=32
  ·subst h32;have hl33:33=l.length:=by omega
   have hb:=hbig hl33;repeat' first|refine O ?_|intro
   refine G7 (λh0=>?_) (λh0=>?_)
   ·repeat' first|refine Vz ?_|intro
    refine x9 ?_;have hc:1<=(l.getD 32 0).toNat:=by rw[getD_in hil];omega
    have hbb:¬ Q9 l<115792089237316195423570985008687907853269984665640564039457584007913129639936:=by
     have h1:256 ^ 32*1<=256 ^ 32*(l.getD 32 0).toNat:=Nat.mul_le_mul_left _ hc;have h2:(256:Nat) ^ 32*1=115792089237316195423570985008687907853269984665640564039457584007913129639936:=by decide
     omega
    rw[Gf hbb,show lK (Q9 l)=false from dZ hbb];rfl
   repeat' first|refine O ?_|intro
   refine y7 33 za ?_ ⟨om,λ_=>by rw[getD_in hil];exact UInt8.toNat_inj.1 (by show _=0;omega)⟩ om;exact A8
  have hi32:i<32:=om
  have hr:((i:Int)%8)=((i%8:Nat):Int):=om
  have hby:=l[i].toNat_lt;have hps:=a4j hil;have htop:lm (Q9 (l.take i)) (i / 8)<256 ^ (i%8):=a6k Aa;have hset:=a1k (n:=Q9 (l.take i)) (m:=Q9 (l.take (i+1))) (x:=lm (Q9 (l.take i)) (i / 8)+256 ^ (i%8)*l[i].toNat) (show i / 8<4 by omega) (λj _=>hps j);rw[Nat.min_eq_left om];repeat' first|refine O ?_|intro
  apply zd [];exact zg;intro _ _;refine aX (i / 8) ?_;exact j5 (A7 rfl rfl);apply zd [0];exact zg;intro _ _;refine vL (j:=i / 8) (PZ om) ?_;exact j5 (A7 rfl rfl);repeat' first|refine Yz ?_|intro
  rw[hr];repeat' first|refine Yz ?_|intro
  apply zd [];exact zg;intro _ _;refine b2e (i%8) ?_;exact j5 (A7 rfl rfl);apply zd [];exact zg;intro _ _;refine b2o ?_ rfl rfl htop hby om;exact j5 (A7 rfl rfl);repeat' first|refine Yz ?_|intro
  apply zd [];exact zg;intro _ _;refine aX (i / 8) ?_;exact j5 (A7 rfl rfl);apply iX [0];exact rfl;exact rfl;kernel_rfl;intro _ _;refine vJ (ps:=[u6 (lm (Q9 (l.take i)) 0),u6 (lm (Q9 (l.take i)) 1),u6 (lm (Q9 (l.take i)) 2),u6 (lm (Q9 (l.take i)) 3)]) (j:=i / 8) (show i / 8<4 by omega) ?_;exact j5 (jJ rfl);exact rfl;exact rfl;rw[hset];repeat' first|refine Yz ?_|intro
  refine y7 (i+1) za ?_ ⟨hil,λh=>absurd h om⟩ om;rw[Nat.min_eq_left om];exact A8
 obtain rfl:i=l.length:=by omega
 have hfin:Q9 (l.take (min l.length 32))=Q9 l:=by
  rcases hlen with h|h
  ·rw[Nat.min_eq_left om,List.take_length]
  rw[Nat.min_eq_right om,hbig h.symm,h33 h];rfl
 have hlt2:Q9 l<115792089237316195423570985008687907853269984665640564039457584007913129639936:=by
  rw[<- hfin];refine Nat.lt_of_lt_of_le Aa ?_;exact Nat.pow_le_pow_right (n:=256) (j:=32) dc om
 rw[hfin];repeat' first|refine Vz ?_|intro
 refine x9 ?_;rw[show lK (Q9 l)=true from dT hlt2];show AV.tup [aD _,_]=.tup [aD _,_];rw[mO hlt2]⟩
theorem a9T (l:Bs)(c:UInt8):dI (l++[c])=dI l++[int (c.toNat:Int)]:=by
 unfold dI;rw[List.map_append];rfl
instance a8q {s:Bs}:Ans prog GL 79 [str s] (s.length<=1000000000) (.tup [G6 (if s.length=32 then H9 (mH s) else wZ),int (if s.length=32 then 0 else 10)]):=⟨λhl=>by
 refine zc func79 ntmps79 λ_ hs=>?_;repeat' first|refine Vz ?_|intro
 refine G7 (λhne=>?_) (λhne=>?_)
 ·have h32:¬ s.length=32:=om
  repeat' first|refine Vz ?_|intro
  refine x9 ?_;rw[if_neg h32,if_neg h32];rfl
 have h32:s.length=32:=om
 repeat' first|refine Vz ?_|intro
 rename_i g2;refine sP 4 (Imp.nil (k:=1)) ?_;refine eO (λok w h=>h.full 3 1 none 0) ?_;refine H7 (α:=Nat × Value) (λq=>[(0,str s),(2,ptr g2),(3,int 0),(4,.sl 1 (dI (s.reverse.take (32-q.1))) (some q.2)),(5,int ((q.1:Int)-1))]) (λq=>[.tail 3 1 q.2,.var g2 39 (aD 0)]) (λq=>q.1<=32) (λq=>q.1) (32,.slice none 0 0) za zb (Nat.le_refl _) ?_;rintro⟨n,v⟩ hn;dsimp only at hn ⊢;rcases n with _|k
 ·rw[show 32-0=32 from rfl,List.take_of_length_le (by rw[List.length_reverse];omega)];have hrl:s.reverse.length=32\/s.reverse.length=33:=.inl (by rw[List.length_reverse];omega);repeat' first|refine O ?_|intro
  refine x9 ?_;rw[if_pos h32,if_pos h32];rfl
 rw[show ((k+1:Nat):Int)-1=(k:Int) by omega];have hk:k<s.length:=by omega
 have hm:(s.reverse.take (32-(k+1))).length<=32:=by rw[List.length_take];omega
 have hm2:(dI (s.reverse.take (32-(k+1)))).length<=32:=by rw[We];exact hm
 have e0:s.reverse[32-(k+1)]'(by rw[List.length_reverse];omega)=s[k]:=by
  rw[List.getElem_reverse];congr 1
  omega
 have e2:dI (s.reverse.take (32-k))=dI (s.reverse.take (32-(k+1)))++[int (s[k].toNat:Int)]:=by
  rw[show 32-k=32-(k+1)+1 by omega,List.take_succ_eq_append_getElem (by rw[List.length_reverse];omega),a9T,e0]
 repeat' first|refine O ?_|intro
 have hby:=s[k].toNat_lt;refine EO k ?_ (List.getElem?_eq_getElem hk);repeat' first|refine Yz ?_|intro
 refine aP (λv'=>?_);repeat' first|refine Vz ?_|intro
 rw[<- e2];refine y7 (k,v') za ?_ (by dsimp only;omega) (Nat.lt_succ_self k);exact zb⟩
end Go.Proofs.Z

namespace Go.Proofs.Z
open Go Go.RowKit Tw Av
abbrev RS:={σ:Bs × Bool // σ.1.length<=1000000000}
def sT (c most:Int)(σ:RS):RS:=⟨(l9 c most σ.1.1 σ.1.2,F8 c most σ.1.1 σ.1.2),Nat.le_trans (aU c most σ.1.1 σ.1.2).1 σ.2⟩
def sI (c most:Int)(σ:RS):RS:=⟨(l9 c 8 σ.1.1 σ.1.2,O1 c most σ.1.1 σ.1.2),Nat.le_trans (aU c 8 σ.1.1 σ.1.2).1 σ.2⟩
def gT (c most:Int)(σ:RS):Bs:=I7 c most σ.1.1 σ.1.2
def gI (c most:Int)(σ:RS):Int:=N7 c most σ.1.1 σ.1.2
def gZ (σ:RS):Int:=X6 σ.1.1 σ.1.2
def C9 (σ:RS):AV:=H5 σ.1.1 σ.1.2
theorem KL (c most:Int)(σ:RS):(gT c most σ).length<=1000000000:=Nat.le_trans (aU c most σ.1.1 σ.1.2).2 σ.2
theorem Bf {c most:Int}{σ:RS}(h:0<=most):0<=gI c most σ/\gI c most σ<=most:=by
 unfold gI N7;split <;> omega
def I9 (s:Bs):RS:=if h:s.length<=1000000000 then ⟨(s,false),h⟩ else ⟨([],true),dc⟩
theorem Fz {s:Bs}(h:s.length<=1000000000):H5 s false=C9 (I9 s):=by
 unfold I9;rw[dif_pos h];rfl
def qV (σ:RS):RS:=sI 75 16 σ
def tN (σ:RS):RS:=sT 73 4000 (qV σ)
def tH (σ:RS):RS:=sT 79 4000 (tN σ)
def tF (σ:RS):RS:=sT 81 4000 (tH σ)
def tC (σ:RS):RS:=sT 82 4000 (tF σ)
def sZ (σ:RS):RS:=sT 89 4000 (tC σ)
def sW (σ:RS):RS:=sI 69 1099511627776 (sZ σ)
def sV (σ:RS):RS:=sT 99 4000 (sW σ)
def sU (σ:RS):RS:=sI 104 1099511627776 (sV σ)
def lJ (σ:RS):RS:=sI 116 1099511627776 (sU σ)
def lI (σ:RS):RS:=sT 114 32 (lJ σ)
def tZ (σ:RS):RS:=sT 77 32 (lI σ)
def tY (σ:RS):RS:=sI 113 1099511627776 (tZ σ)
def tX (σ:RS):RS:=sT 115 4000 (tY σ)
def tV (σ:RS):RS:=sT 107 4000 (tX σ)
def lH (σ:RS):RS:=sT 100 4000 (tV σ)
def tQ (σ:RS):RS:=sT 97 32 (lH σ)
def tO (σ:RS):RS:=sT 102 4000 (tQ σ)
def pJ (σ:RS):RS:=sT 103 4000 (tO σ)
def tL (σ:RS):RS:=sI 117 1099511627776 (pJ σ)
def tK (σ:RS):RS:=sI 118 1099511627776 (tL σ)
def tJ (σ:RS):RS:=sT 65 4000 (tK σ)
def lG (σ:RS):RS:=sI 84 1099511627776 (tJ σ)
def lF (σ:RS):RS:=sT 70 4000 (lG σ)
def qU (σ:RS):RS:=sT 71 4000 (lF σ)
def LY (σ:RS):Bs:=gT 114 32 (lJ σ)
def MB (σ:RS):Bs:=gT 77 32 (lI σ)
def ME (σ:RS):Bs:=gT 97 32 (lH σ)
def LZ (σ:RS):Bs:=gT 70 4000 (lG σ)
def MC (σ:RS):Bs:=gT 71 4000 (lF σ)
def wV (b:Bs):Wd:=if b.length=32 then H9 (mH b) else wZ
def IX (σ:RS):TxX:=
 ⟨gI 75 16 σ,gT 73 4000 (qV σ),gT 79 4000 (tN σ),gT 81 4000 (tH σ),gT 82 4000 (tF σ),gT 89 4000 (tC σ),gI 69 1099511627776 (sZ σ),
  ⟨gT 99 4000 (sW σ),gI 104 1099511627776 (sV σ),gI 116 1099511627776 (sU σ),Y2 (LY σ)⟩,Y2 (MB σ),
  ⟨gI 113 1099511627776 (tZ σ),gT 115 4000 (tY σ),gT 107 4000 (tX σ),gT 100 4000 (tV σ),wV (ME σ),gT 102 4000 (tQ σ),gT 103 4000 (tO σ),gI 117 1099511627776 (pJ σ),gI 118 1099511627776 (tL σ)⟩,
  gT 65 4000 (tK σ),gI 84 1099511627776 (tJ σ),kI (LZ σ),qC (MC σ)⟩
def vN (σ:RS):Bool:=decide ((LY σ).length=32)&&(decide ((MB σ).length=32)&&(decide ((ME σ).length=32)&&(decide (iD (LZ σ)=0)&&(decide (oF (MC σ)=0)&&decide (gZ (qU σ)=0)))))
def X0:TxX:=⟨0,[],[],[],[],[],0,VS,G8,a0Z,[],0,P6,lD⟩
def J9 (σ:RS):TxX:=if vN σ=true then IX σ else X0
def Y0 (σ:RS):Int:=if vN σ=true then 0 else 10
def j6 (x:TxX):Bs:=
 y9 75 x.k++r9 73 x.i++r9 79 x.o++r9 81 x.p++r9 82 x.q++r9 89 x.y++y9 69 x.e++r9 99 x.h.c++y9 104 x.h.h++y9 116 x.h.t++r9 114 x.h.r.l++r9 77 x.m.l
 ++ y9 113 x.x.q++r9 115 x.x.s++r9 107 x.x.k++r9 100 x.x.d++r9 97 (bF x.x.a.n)++r9 102 x.x.f++r9 103 x.x.g++y9 117 x.x.h++y9 118 x.x.t
 ++ r9 65 x.a++y9 84 x.t++r9 70 (R7 x.f)++r9 71 (dY x.g)
end Go.Proofs.Z

namespace Go.Proofs.Z
open Go Go.RowKit Tw Av Go.Proofs.Tryz
section
variable {p s:Bs}
def dX (s:Bs):Nat:=s.findIdx λc=>decide (c=47)
theorem Qv :dX s<s.length↔oP s=false:=by
 unfold dX oP;rw[List.findIdx_lt_length]
 constructor
 ·rintro⟨x,hx,h⟩;rw[List.all_eq_false];exact⟨x,hx,by simpa using h⟩
 intro h;rw[List.all_eq_false] at h;obtain⟨x,hx,h⟩:=h;exact⟨x,hx,by simpa using h⟩
def uV (s:Bs):Int:=if dX s<s.length then (dX s:Int) else -1
theorem a6U (s:Bs):Lib.indexByte s 47=uV s:=by
 induction s with
 | nil=>rfl
 | cons c s ih=>
  rw[Lib.indexByte,ih];unfold uV dX;rw[List.findIdx_cons,List.length_cons];by_cases h:c=47
  ·subst h;simp
  have h2:(c == 47)=false:=by simpa using h
  rw[h2,dZ h];simp only[Bool.false_eq_true,if_false,cond_false];generalize s.findIdx (λc=>decide (c=47))=k;by_cases hk:k<s.length
  ·have h3:(((k:Nat):Int) == -1)=false:=by
    rw[beq_eq_false_iff_ne];omega
   have h4:k+1<s.length+1:=om
   simp only[if_pos hk,if_pos h4,h3];simp
  have h4:¬ k+1<s.length+1:=om
  simp only[if_neg hk,if_neg h4];rfl
theorem a3h (s:Bs)(w:World):(Extern.BytealgIndexByte.indexByte #[sv s,.int .u8 47]).run prog w=.ok (.int .i64 (uV s)) w:=by
 have h:=Lib.run_indexByteString (P:=prog) ⟨s.toArray⟩ 47 w;rw[show (47:Int).toNat.toUInt8=47 from rfl,a6U] at h;exact h
theorem a3i (s:Bs)(w:World):(Extern.BytealgCount.count #[sv s,.int .u8 47]).run prog w=.ok (.int .i64 (s.count 47:Nat)) w:=
 Lib.run_countString (P:=prog) ⟨s.toArray⟩ 47 w
instance c1T :Ans prog GL 383 [str s,.lit (y8 47)] True (int (uV s)):=⟨λ_=>by
 refine zc func383 ntmps383 λ_ hs=>?_;repeat' first|refine Vz ?_|intro
 apply EP (v:=int (uV s)) func389;kernel_rfl;exact rfl;kernel_rfl;kernel_rfl;exact rfl;exact rfl;exact rfl
 ·rintro ok w cs _ ⟨u1,us,rfl,h1,u2,us2,rfl,h2,rfl⟩;rw[RV0.lit h1,RV0.lit h2];exact⟨_,a3h s _,RVl rfl⟩
 exact M7⟩
instance c1S :Ans prog GL 373 [str s,str [47]] True (int (uV s)):=⟨λ_=>by
 refine zc func373 ntmps373 λ_ hs=>?_;repeat' first|refine O ?_|intro
 refine G7 (λh=>?_) (λh=>?_)
 ·repeat' first|refine O ?_|intro
  refine x9 ?_;rw[<- h];rfl
 have h1:([47]:Bs).length=1:=rfl;exact bH⟩
instance c1U :Ans prog GL 350 [str s,str [47]] True (int (uV s)):=⟨λ_=>by
 refine zc func350 ntmps350 λ_ hs=>?_;exact M7⟩
instance c2w :Ans prog GL 315 [str s,str [47]] True (d9 (!oP s)):=⟨λ_=>by
 refine zc func315 ntmps315 λ_ hs=>?_;repeat' first|refine Vz ?_|intro
 refine x9 ?_;have h:decide (0<=uV s)=!oP s:=by
  unfold uV;by_cases h:dX s<s.length
  ·rw[if_pos h,Qv.1 h];exact dT om
  rw[if_neg h];have hn:oP s=true:=by
   cases hh:oP s
   ·exact absurd (Qv.2 hh) h
   rfl
  rw[hn];rfl
 show d9 _=_;rw[h]⟩
instance c2v :Ans prog GL 314 [str s,str [47]] True (int (s.count 47:Nat)):=⟨λ_=>by
 have h1:([47]:Bs).length=1:=rfl;refine zc func314 ntmps314 λ_ hs=>?_;repeat' first|refine Yz ?_|intro
 apply EP (v:=int (s.count 47:Nat)) func349;kernel_rfl;exact rfl;kernel_rfl;kernel_rfl;exact rfl;exact rfl;exact rfl
 ·rintro ok w cs _ ⟨u1,us,rfl,h1,u2,us2,rfl,h2,rfl⟩;rw[RV0.lit h1,RV0.lit h2];exact⟨_,a3i s _,RVl rfl⟩
 exact o8⟩
instance c2a :Ans prog GL 121 [str s,str p] True (d9 (decide (s.take p.length=p))):=⟨λ_=>by
 refine zc func121 ntmps121 λ_ hs=>?_;repeat' first|refine Vz ?_|intro
 refine fE (λh=>?_) (λh=>?_)
 ·repeat' first|refine Vz ?_|intro
  refine dG 0 p.length ?_;exact M7
 repeat' first|refine O ?_|intro
 refine x9 ?_;have:¬ s.take p.length=p:=λe=>by
  have h2:=congrArg List.length e;rw[List.length_take] at h2;omega
 rw[dZ this];rfl⟩
instance c2t :Ans prog GL 388 [str s,str p] True (.tup [str (if s.take p.length=p then s.drop p.length else s),d9 (decide (s.take p.length=p))]):=⟨λ_=>by
 refine zc func388 ntmps388 λ_ hs=>?_;repeat' first|refine Vz ?_|intro
 refine G7 (λh=>?_) (λh=>?_)
 ·repeat' first|refine Vz ?_|intro
  refine x9 ?_;rw[if_neg h,dZ h];rfl
 have h':s.take p.length=p:=Classical.not_not.1 h;have hl:p.length<=s.length:=by
  have h2:=congrArg List.length h';rw[List.length_take] at h2;omega
 repeat' first|refine Vz ?_|intro
 refine dG p.length s.length ?_;repeat' first|refine Vz ?_|intro
 refine x9 ?_;rw[if_pos h',dT h',List.take_length];rfl⟩
instance c2u :Ans prog GL 381 [str s,str p] True (.tup [str (if s.take p.length=p then s.drop p.length else s),d9 (decide (s.take p.length=p))]):=⟨λ_=>by
 refine zc func381 ntmps381 λ_ hs=>?_;exact M7⟩
end
end Go.Proofs.Z

namespace Av
open Go Go.RowKit Tw
section
variable {w:World}{args:Array Value}{f:FuncId}{x y:Code}{m1:List Piece}{fn:Func}{ds:List Deferred}
abbrev Ro (l:Nat):Fence:=Fence.wide.inRound l
abbrev yv (l:Nat):AV:=.lit (.func (.yield l) #[] #[])
class NoOut (Q:Exit->Act->World->Prop):Prop where
 out:¬ LetsOut Q
instance {K:Act->World->Prop}{Q:Exit->Act->World->Prop}[h:NoOut Q]:NoOut (Exit.then K Q):=⟨fun⟨a,w,e⟩=>h.out ⟨a,w,e⟩⟩
instance {id:Nat}{Q:Exit->Act->World->Prop}[h:NoOut Q]:NoOut (Exit.inBlock id Q):=⟨fun⟨a,w,e⟩=>h.out ⟨a,w,e⟩⟩
instance {P:Program}{l:Nat}{R:Ending->World->Prop}:NoOut (roundPost P l R):=⟨fun⟨_,_,e⟩=>e⟩
instance : NoOut (λ_ _ _ => False) := ⟨λ⟨_, _, e⟩ => e⟩
instance {P:Program}{fn:Func}{s:Base}{K:AV->List Piece->Prop}:NoOut (bodyPost P fn (Back s K)):=⟨fun⟨_,_,_,_,_,_,_,e,_⟩=>by cases e⟩
instance {P:Program}{F:Fence}{n:Nat}{fn:Func}{s:Base}{K:AV->List Piece->Prop}:NoOut (bodyPostM F n P fn (Back s K)):=⟨fun⟨_,_,_,_,_,_,_,e,_⟩=>by cases e⟩
instance {Q:Exit->Act->World->Prop}[h:NoOut Q]:NoOut (Exit.noGoto Q):=⟨fun⟨a,w,e⟩=>h.out ⟨a,w,e⟩⟩
def BB (o:Oper):Bool:=match o.op with
 | .defer _=>false
 | _=>true
theorem Oy {o:Oper}(h:BB o=true):∀ c,o.op≠.defer c:=λc e=>by
 unfold BB at h;rw[e] at h;cases h
section
variable {P:Program} {F:Fence}
theorem Gj {o:Oper}{a:Act}{K:Act->World->Prop}{Q Q':Exit->Act->World->Prop}(hd:F.depth=none)(hc:∀ {f:FuncId} {args:Array Value} {w:World} {R:Ending->World->Prop},Calls P f args w R->CallsIn F 0 P f args w R)
  (hr:∀ {row:String} {args:Array Value} {w:World} {R:Value->World->Prop},Rows P row args w R->RowsIn F 0 P row args w R) (hQ:∀ chain a w,Q (.panic chain) a w->Q' (.panic chain) a w) (hO:LetsOut Q->LetsOut Q'):∀ {r:Result Go.Next},o.upon P a K Q r->o.uponIn F 0 P a K Q' r
 | .halt x w',h=>by cases x <;> first|exact hQ _ _ _ h|exact h
 | .ok x w',h=>by
  cases x with
  | enter f args=>
   refine⟨(λe=>by rw[hd] at e;cases e),CallsIn.mono (hc h) λe w h=>?_⟩;cases e
   ·exact h
   ·exact hQ _ _ _ h
   exact hO h
  | row row args=>exact⟨(λe=>by rw[hd] at e;cases e),hr h⟩
  | round _ _ _ _ _=>exact(show False from h).elim
  | _=>exact h
theorem OD {ops:Array Oper}{Q Q':Exit->Act->World->Prop}(hf:∀ f,F.fn f)(hd:F.depth=none)(hc:∀ {f:FuncId} {args:Array Value} {w:World} {R:Ending->World->Prop},Calls P f args w R->CallsIn F 0 P f args w R)
  (hr:∀ {row:String} {args:Array Value} {w:World} {R:Value->World->Prop},Rows P row args w R->RowsIn F 0 P row args w R) (hQ:∀ chain a w,Q (.panic chain) a w->Q' (.panic chain) a w) (hO:¬ LetsOut Q) {rest:List Oper} :
  ∀ (l:List Oper) (a:Act) (w:World),l.all BB=true->(∀ a w,Q .normal a w->wpListIn F 0 P ops Q' rest a w)->wpList P ops Q l a w->wpListIn F 0 P ops Q' (l++rest) a w
 | [],a,w,_,hn,h=>hn a w h
 | o::l,a,w,ho,hn,h=>by
  rw[List.all_cons,bet] at ho;unfold wpList at h;rw[List.cons_append];unfold wpListIn;by_cases hw:Region.wanted o (yielded ops a.tmps)=true
  ·rw[if_pos hw] at h ⊢;rcases h with h|⟨_,h⟩
   ·refine⟨λf _=>hf f,?_⟩;rw[Oper.semAt_eq _ _ _ (Oy ho.1)];have h':=Oper.wp_mono (λa w=>OD hf hd hc hr hQ hO l a w ho.2 hn) h;exact Gj hd hc hr hQ (λe=>absurd e hO) h'
   exact absurd h hO
  rw[if_neg hw] at h ⊢;exact⟨λf _=>hf f,OD hf hd hc hr hQ hO l _ w ho.2 hn h⟩
theorem Yc {R:Ending->World->Prop}(h:Calls P f args w R):CallsIn Fence.wide 0 P f args w R:=callsIn_wide.2 h
theorem Yd {l:Nat}{R:Ending->World->Prop}(h:Calls P f args w R):CallsIn (Ro l) 0 P f args w R:=callsIn_wide.2 h
theorem XF {row:String}{R:Value->World->Prop}(h:Rows P row args w R):RowsIn Fence.wide 0 P row args w R:=λc cs _=>by
 obtain⟨v,w',h1,h2⟩:=h c cs;exact⟨v,w',h1,stepsIn_wide.2 h2⟩
theorem Jt {l:Nat}{row:String}{R:Value->World->Prop}(h:Rows P row args w R):RowsIn (Ro l) 0 P row args w R:=XF h
end
section
variable {P:Program} {N:Nat} {ops:Array Oper} {Q:Exit->Act->World->Prop} {rest l:List Oper} {s:Base} {e:Env} {m:List Piece} {d:Nat} {ty:TypeId} {pos:String} {af:Array Edge} {gl:List (Nat × AV)} {L:Nat}
def BC (P:Program)(N L:Nat)(c:Code)(Q:Exit->Act->World->Prop)(s:Base)(e:Env)(m:List Piece):Prop:=∀ ok w a,St s ok m w->Sat N ok w e a->c.wpIn (Ro L) 0 P Q a w
theorem qO (h:BC P N L x (Exit.then (λa w=>y.wpIn (Ro L) 0 P Q a w) Q) s e m):BC P N L (.seq x y) Q s e m:=λok w a hS ha=>wpIn_seq (h ok w a hS ha)
theorem UV {id:Nat}{c:Code}(h:BC P N L c (Exit.inBlock id Q) s e m):BC P N L (.block id c) Q s e m:=λok w a hS ha=>wpIn_block (h ok w a hS ha)
theorem PM (h:AE N .normal Q s e m):BC P N L .skip Q s e m:=λok w a hS ha=>wpIn_skip (h.run ok w a hS ha)
theorem Ec {id:Nat}(h:AE N (.exit id) Q s e m):BC P N L (.exit id) Q s e m:=λok w a hS ha=>wpIn_exit (h.run ok w a hS ha)
theorem LD {c:Operand}(h:BC P N L x Q s e m)(hc:ev e c=some (.lit (.bool true)):=by exact rfl):BC P N L (.cond c x y) Q s e m:=λok w a hS ha=>wpIn_cond_true (ha.lit hc) (h ok w a hS ha)
theorem LF {c:Operand}(h:BC P N L y Q s e m)(hc:ev e c=some (.lit (.bool false)):=by exact rfl):BC P N L (.cond c x y) Q s e m:=λok w a hS ha=>wpIn_cond_false (ha.lit hc) (h ok w a hS ha)
theorem sH {id:Nat}[hQ:NoOut Q](h:AL P N l.toArray Q s l e m)(hn:l.all BB=true:=by exact rfl):BC P N L (.region id l.toArray false) Q s e m:=λok w a hS ha=>by
 refine wpIn_region_lit ?_;have:=OD (F:=Ro L) (rest:=[]) (λ_=>trivial) rfl Yd Jt (λ_ _ _ h=>h) hQ.out l a w hn (λa w h=>h) (h.run ok w a hS ha)
 rwa [List.append_nil] at this
theorem jX {c:Code}{Q':Exit->Act->World->Prop}(h:BC P N L c Q' s e m):AE N .normal (Exit.then (λa w=>c.wpIn (Ro L) 0 P Q' a w) Q) s e m:=AE.mk h
theorem Dz {c:Code}{r:Loop}{F:Exit->Act->World->Prop}(hm:m.Perm (.obj L (.loop r)::m1))(hr:r.state=.ready)(h:BC P N L c Q s e (.obj L (.loop { r with state:=.busy })::m1)) :
  AE N .normal (Exit.then (λa₁ w₁=>∃ w₂,(Instr.beginRound L).run P w₁=.ok () w₂/\c.wpIn (Ro L) 0 P Q a₁ w₂) F) s e m:=AE.mk λok w a hS ha=>by
 have hS':=hS.perm hm.symm;have ho:=(hS'.at_ (.obj L (.loop r)) sm).1;obtain⟨g1,g2⟩:=St.setObj (pre:=[]) (o':=.loop { r with state:=.busy }) hS' rfl;exact⟨_,run_beginRound ho hr,h ok _ a g1 (ha.stp g2)⟩
theorem BU {r:Loop}{K:AV->List Piece->Prop}(hm:m.Perm (.obj L (.loop r)::m1))(hK:K (d9 true) (.obj L (.loop { r with state:=.ready,pending:=none })::m1)):AE N .normal (roundPost P L (Back s K)) s e m:=AE.mk λok w a hS ha=>by
 have hS':=hS.perm hm.symm;have ho:=(hS'.at_ (.obj L (.loop r)) sm).1;obtain⟨g1,g2⟩:=St.setObj (pre:=[]) (o':=.loop { r with state:=.ready,pending:=none }) hS' rfl;exact⟨_,_,run_endRound none ho,d9 true,_,ok,.bool true,hK,rfl,RV0.of_lit rfl,g1⟩
theorem b3A {r:Loop}{id:Nat}{K:AV->List Piece->Prop}(hm:m.Perm (.obj L (.loop r)::m1))(hK:K (d9 false) (.obj L (.loop { r with state:=.done,pending:=some (.exit id) })::m1)):AE N (.exit id) (roundPost P L (Back s K)) s e m:=AE.mk λok w a hS ha=>by
 have hS':=hS.perm hm.symm;have ho:=(hS'.at_ (.obj L (.loop r)) sm).1;obtain⟨g1,g2⟩:=St.setObj (pre:=[]) (o':=.loop { r with state:=.done,pending:=some (.exit id) }) hS' rfl;exact⟨_,_,run_endRound (some (.exit id)) ho,d9 false,_,ok,.bool false,hK,rfl,RV0.of_lit rfl,g1⟩
def Yld (P:Program)(gl:List (Nat × AV))(ok0:Ok)(w0:World)(L:Nat)(args:List AV)(m:List Piece)(K:AV->List Piece->Prop):Prop:=
 ∀ ok w cargs,Stp ok0 w0 ok w->St (X3 gl m ok w) ok m w->RVs ok w args cargs->YieldAt Fence.wide 0 P L cargs.toArray w (Back (X3 gl m ok w) K)
theorem VT {ok0:Ok}{w0:World}{e0:Env}{a0:Act}{r:Loop}{p:Nat}{x:AV}{K:AV->List Piece->Prop}(h0:Sat N ok0 w0 e0 a0)(hr:r.tmps=a0.tmps)(hp:r.params=#[p])(hpN:Nat.blt p N=true)
  (h:∀ s:Base,s.gl=gl->BC P N L r.assign (Exit.then (λa₁ w₁=>∃ w₂,(Instr.beginRound L).run P w₁=.ok () w₂/\r.body.wpIn (Ro L) 0 P (roundPost P L (Back s K)) a₁ w₂) (λ_ _ _=>False)) s ((p,x)::e0) (.obj L (.loop r)::m1)) :
  Yld P gl ok0 w0 L [x] (.obj L (.loop r)::m1) K:=λok w cargs hst hS hv=>by
 obtain⟨u,us,rfl,hu,h2⟩:=hv;obtain rfl:=(show us=[] from h2);have ho:=(hS.at_ (.obj L (.loop r)) sm).1;refine⟨_,_,_,_,run_yield ho (by rw[hp];rfl),roundIn_of_wpIn trivial ?_⟩;have ha:Sat N ok w ((p,x)::e0) (a0.put (some p) u):=(h0.stp hst).put (RV.of0 hu) hpN;have e1:({ tmps:=(r.params.zip #[u]).foldl (λtmps (t,a)=>tmps.setIfInBounds t a) r.tmps,defers:=[] }:Act)=a0.put (some p) u:=by
  have hdf:a0.defers=[]:=h0.defers;rw[hp,hr];obtain⟨t0,d0⟩:=a0;subst hdf;simp[Act.put]
 have:=h (X3 gl (.obj L (.loop r)::m1) ok w) rfl ok w _ hS ha;rw[<- e1] at this;exact this
def AI (P:Program)(N:Nat)(ops:Array Oper)(Q:Exit->Act->World->Prop)(s:Base)(l:List Oper)(e:Env)(m:List Piece):Prop:=∀ ok w a,St s ok m w->Sat N ok w e a->wpListIn Fence.wide 0 P ops Q l a w
theorem Fj {id:Nat}(h:AI P N l.toArray Q s l e m):AC P N (.region id l.toArray false) Q s e m:=AC.mk λok w a hS ha=>(wpIn_wide (n:=0)).1 (wpIn_region_lit (h ok w a hS ha))
theorem b3x (h:AE N .normal Q s e m):AI P N ops Q s [] e m:=λok w a hS ha=>h.run ok w a hS ha
theorem Fa {pre:List Oper}{α:Type}(I:α->Env)(M:α->List Piece)(h1:AL P N ops (Exit.then (λa w=>∃ z ok,Sat N ok w (I z) a/\St s ok (M z) w) (λ_ _ _=>False)) s pre e m)(h2:∀ z,AI P N ops Q s rest (I z) (M z))(hn:pre.all BB=true:=by exact rfl):AI P N ops Q s (pre++rest) e m:=λok w a hS ha=>
 OD (F:=Fence.wide) (Q:=Exit.then (λa w=>∃ z ok,Sat N ok w (I z) a/\St s ok (M z) w) (λ_ _ _=>False)) (λ_=>trivial) rfl Yc XF (λ_ _ _ h=>h.elim) (NoOut.out) pre a w hn (λa w hx=>by
  obtain⟨z,ok,g1,g2⟩:=hx;exact h2 z ok w a g2 g1) (h1.run ok w a hS ha)
theorem a0T [hQ:NoOut Q](h:AL P N ops Q s l e m)(hn:l.all BB=true:=by exact rfl):AI P N ops Q s l e m:=λok w a hS ha=>by
 have:=OD (F:=Fence.wide) (rest:=[]) (λ_=>trivial) rfl Yc XF (λ_ _ _ h=>h) hQ.out l a w hn (λa w h=>h) (h.run ok w a hS ha)
 rwa [List.append_nil] at this
theorem Ez {ok0:Ok}{w0:World}{x:Operand}{xs:List Operand}{ts:Array TypeId}{args:List AV}(m1 fr:List Piece){K:AV->List Piece->Prop}(hc:Yld P s.gl ok0 w0 L args m1 K)(hw:Stp ok0 w0 s.ok s.w)(h:∀ v m1',K v m1'->AI P N ops Q s rest ((d,v)::e) (m1'++fr))(hp:m.Perm (m1++fr))
  (h0:ev e x=some (yv L):=by exact rfl) (hx:evs e xs=some args:=by exact rfl) (hn:args.all U8=true:=by exact rfl) (hd:Nat.blt d N=true:=by exact rfl):AI P N ops Q s (⟨some d,.call ⟨.value x,xs.toArray,ts⟩,ty,pos,af,none⟩::rest) e m:=λok w a hS ha=>by
 refine wpListIn_plain rfl λK' hK=>?_;have hS':=hS.perm hp.symm;obtain⟨fn,tmps,assign,body,hy,hR⟩:=hc ok w _ (hw.trans hS.stp) hS'.lend (ha.evals hx hn);refine⟨λ_ _=>trivial,?_⟩;have hrun:(execOp a.eval ⟨some d,.call ⟨.value x,xs.toArray,ts⟩,ty,pos,af,none⟩).run P w=.ok (.round L fn tmps assign body) w:=by
  simpa[execOp,resolve,ha.lit h0,Deferred.ofValue,invoke] using hy
 have hsem:Oper.semAt Fence.wide.round a.eval ⟨some d,.call ⟨.value x,xs.toArray,ts⟩,ty,pos,af,none⟩=execOp a.eval ⟨some d,.call ⟨.value x,xs.toArray,ts⟩,ty,pos,af,none⟩:=Oper.semAt_eq _ _ _ (λc e=>by cases e);rw[hsem,hrun,Oper.uponIn_round];refine⟨(λe=>by cases e),RoundIn.mono hR λx w' hx=>?_⟩;obtain⟨v,m',ok',cv,g1,rfl,g2,g3⟩:=hx;exact hK _ _ (h v m' g1 ok' w' _ (hS'.back g3) ((ha.stp g3.stp).put g2 hd))
theorem Ye {c:Code}{args:List AV}{K:AV->List Piece->Prop}(hf:P.funcs[f]?=some fn)(hb:fn.body=some c)(hN:fn.ntmps=N)(hl':Nat.ble args.length N=true){ok:Ok}{cargs:List Value}(hS:St (X3 gl m ok w) ok m w)(hv:RVs ok w args cargs)
  (h:AC P N c (bodyPost P fn (Back (X3 gl m ok w) K)) (X3 gl m ok w) (IB 0 args) m):Calls P f cargs.toArray w (Back (X3 gl m ok w) K):=by
 have hl:args.length<=N:=nlb hl';have hcl:=hv.length;refine calls_of_wp hf hb (h.run ok w _ hS ⟨?_,rfl,?_⟩)
 ·simp[hN];omega
 intro t v ht;obtain⟨_,h2⟩:=UZ args 0 t v ht;simp only[Nat.sub_zero] at h2;obtain⟨u,h3,h4⟩:=hv.get h2;have hlt:t<cargs.length:=(List.getElem?_eq_some_iff.1 h3).1;have h5:cargs[t]=u:=(List.getElem?_eq_some_iff.1 h3).2;have h6:=RV.of0 h4;simpa[Array.getElem?_append,hlt,h5] using h6
abbrev DU (fn:FuncId)(a:Act)(ps:Array Tmp)(assign body:Code)(w:World):Loop:={ state:=.ready,pending:=none,fn,tmps:=a.tmps,params:=ps,assign,body,defers:=w.heap.size }
abbrev zC (w:World):List Deferred:=[{ target:=.collected w.heap.size,args:=#[] }]
theorem Fp {g:Operand}{ps:Array Tmp}{assign body:Code}{gf:FuncId}[hf:FnB P gf]{lb:List Value}(_:∀ v∈lb,v.oneCell'=true)
  (h:∀ ok w a fn,St s ok m w->Sat N ok w e a->∀ ok1 w1,Stp ok w ok1 w1->St s ok1 (.obj (w.heap.size+1) (.loop (DU fn a ps assign body w))::.obj w.heap.size (.deferred (some []))::m) w1->Sat N ok1 w1 e a ->
   Calls P gf ((.func (.yield (w.heap.size+1)) #[] #[])::lb).toArray w1 (λx w2=>∃ v ok2 r' m2,x=.returned v/\r'.state≠.busy/\St s ok2 (.obj (w.heap.size+1) (.loop r')::m2) w2/\Stp ok1 w1 ok2 w2 /\
    ∀ ok3 w3,St s ok3 (.obj (w.heap.size+1) (.loop { r' with state:=.exhausted })::m2) w3->Stp ok2 w2 ok3 w3->(match r'.pending with
     | none=>Q .normal { a with defers:=zC w } w3
     | some c=>c.wp P Q { a with defers:=zC w } w3)))
  (h0:ev e g=some (F3 gf lb):=by exact rfl):AC P N (.rangeFunc g ps assign body) Q s e m:=AC.mk λok w a hS ha=>by
 refine(wpIn_wide (n:=0)).1 (wpIn_rangeFunc λfn _=>?_);obtain⟨ok1,hS1,st1⟩:=hS.newObj (o:=.deferred (some [])) rfl;obtain⟨ok2,hS2,st2⟩:=hS1.newObj (o:=.loop (DU fn a ps assign body w)) rfl;have hsz:(w.alloc (.deferred (some []))).heap.size=w.heap.size+1:=World.size_alloc _ _;rw[hsz] at hS2;have hst:=st1.trans st2;have hcall:=h ok w a fn hS ha ok2 _ hst hS2 (ha.stp hst);have hev:a.eval g=.func (.func gf) #[] lb.toArray:=ha.lit h0;refine⟨w.heap.size+1,zC w,(w.alloc (.deferred (some []))).alloc (.loop (DU fn a ps assign body w)),{ target:=.fn (.func gf) lb.toArray,args:=#[.func (.yield (w.heap.size+1)) #[] #[]] },(w.alloc (.deferred (some []))).alloc (.loop (DU fn a ps assign body w)),gf,((.func (.yield (w.heap.size+1)) #[] #[])::lb).toArray,(w.alloc (.deferred (some []))).alloc (.loop (DU fn a ps assign body w)),run_enterLoop_outer fn a.tmps ps assign body,?_,λ_ _=>trivial,?_,(λe=>by cases e),?_⟩;rotate_left 2
 ·refine CallsIn.mono (callsIn_wide.2 hcall) λx w2 hx=>?_;obtain⟨v,ok3,r',m2,rfl,hb,hS3,st3,hk⟩:=hx;have ho:=(hS3.at_ (.obj (w.heap.size+1) (.loop r')) sm).1;obtain⟨g1,g2⟩:=St.setObj (pre:=[]) (o':=.loop { r' with state:=.exhausted }) hS3 rfl;refine⟨_,_,run_endLoop ho hb,?_⟩;have hk':=hk ok3 _ g1 g2;have hdf:zC w++a.defers=zC w:=by rw[ha.defers,List.append_nil]
  show (match r'.pending with|none=>Q .normal { a with defers:=zC w++a.defers } _|some c=>c.wpIn Fence.wide 0 P Q { a with defers:=zC w++a.defers } _);rw[hdf];cases hpd:r'.pending with
  | none=>rw[hpd] at hk';exact hk'
  | some c=>rw[hpd] at hk';exact(wpIn_wide (n:=0)).2 hk'
 ·have e1:resolve a.eval (rangeCall g (w.heap.size+1)) 0=Deferred.ofValue (a.eval g) #[.func (.yield (w.heap.size+1)) #[] #[]]:=by
   have hc:a.eval (.const (.func (.yield (w.heap.size+1)) #[] #[]))=.func (.yield (w.heap.size+1)) #[] #[]:=rfl;simp[resolve,hc]
  rw[e1,hev];simp[Deferred.ofValue]
 simp[invoke,hf.run]
theorem put_defers (a:Act)(d:Option Tmp)(v:Value):(a.put d v).defers=a.defers:=by cases d <;> rfl
theorem Ga {K:Act->World->Prop}(hK:∀ a w,K a w->a.defers=[]):∀ (l:List Oper) (a:Act) (w:World),a.defers≠[]->¬ wpList P ops (Exit.then K λ_ _ _=>False) l a w
 | [],a,w,hd,h=>hd (hK a w h)
 | o::l,a,w,hd,h=>by
  have ih:=Ga hK l;unfold wpList at h;by_cases hw:Region.wanted o (yielded ops a.tmps)=true
  ·rw[if_pos hw] at h;rcases h with h|⟨_,_,_,h⟩
   ·unfold Oper.wp at h;generalize (execOp a.eval o).run P w=r at h;cases r with
    | halt x w'=>cases x <;> exact h
    | ok x w'=>
     cases x with
     | value v=>exact ih _ _ (by rw[put_defers];exact hd) h
     | skip=>exact ih _ _ (by rw[put_defers];exact hd) h
     | enter f args=>
      obtain⟨e,w2,fr,hR,_⟩:=(show Calls P f args w' _ from h) [];cases e
      ·exact ih _ _ (by rw[put_defers];exact hd) hR
      ·exact hR
      obtain⟨_,_,hR⟩:=hR;exact hR
     | row row args=>
      obtain⟨v,w2,hR,_⟩:=(show Rows P row args w' _ from h) default [];exact ih _ _ (by rw[put_defers];exact hd) hR
     | defer d=>exact ih _ _ (by rw[put_defers];exact List.cons_ne_nil _ _) h
     | _=>exact h
   exact h.elim
  rw[if_neg hw] at h;exact ih _ _ (by rw[put_defers];exact hd) h
theorem VX {ds:List Deferred}{K:Act->World->Prop}(hK:∀ a w,K a w->a.defers=[]):∀ (l:List Oper) (a:Act) (w:World),wpList P ops (Exit.then K λ_ _ _=>False) l a w->wpList P ops (Exit.then (λa' w'=>∃ a0:Act,a'={ a0 with defers:=ds }/\K a0 w') λ_ _ _=>False) l { a with defers:=ds } w
 | [],a,w,h=>⟨a,rfl,h⟩
 | o::l,a,w,h=>by
  have hput:∀ (a:Act) (v:Value),({ a with defers:=ds }:Act).put o.dst v={ a.put o.dst v with defers:=ds }:=λa v=>by
   cases o.dst <;> rfl
  have hev:({ a with defers:=ds }:Act).eval=a.eval:=by
   funext x
   cases x <;> rfl
  unfold wpList at h ⊢;by_cases hw:Region.wanted o (yielded ops a.tmps)=true
  ·rw[if_pos hw] at h;rw[if_pos (show Region.wanted o (yielded ops ({ a with defers:=ds }:Act).tmps)=true from hw)];rcases h with h|⟨_,_,_,h⟩
   ·left
    unfold Oper.wp at h ⊢;rw[hev];generalize (execOp a.eval o).run P w=r at h ⊢;have key:∀ v w,wpList P ops (Exit.then K λ_ _ _=>False) l (a.put o.dst v) w->wpList P ops (Exit.then (λa' w'=>∃ a0:Act,a'={ a0 with defers:=ds }/\K a0 w') λ_ _ _=>False) l (({ a with defers:=ds }:Act).put o.dst v) w:=λv w h=>by
     rw[hput];exact VX hK l _ w h
    cases r with
    | halt x w'=>cases x <;> exact h
    | ok x w'=>
     cases x with
     | value v=>exact key v w' h
     | skip=>exact key _ w' h
     | enter f args=>
      refine Calls.mono (show Calls P f args w' _ from h) λe w h=>?_;cases e
      ·exact key _ _ h
      ·exact h
      exact h
     | row row args=>exact Rows.mono (show Rows P row args w' _ from h) λv w h=>key v w h
     | defer d=>exact(Ga hK l _ _ (by rw[put_defers];exact List.cons_ne_nil _ _) h).elim
     | _=>exact h
   exact h.elim
  rw[if_neg hw] at h;rw[if_neg (show ¬ Region.wanted o (yielded ops ({ a with defers:=ds }:Act).tmps)=true from hw),hput];exact VX hK l _ w h
def ACD (P:Program)(N:Nat)(ds:List Deferred)(c:Code)(Q:Exit->Act->World->Prop)(s:Base)(e:Env)(m:List Piece):Prop:=∀ ok w a,St s ok m w->Sat N ok w e a->c.wp P Q { a with defers:=ds } w
theorem VN (h:ACD P N ds x (Exit.then (λa w=>y.wp P Q a w) Q) s e m):ACD P N ds (.seq x y) Q s e m:=λok w a hS ha=>wp_seq (h ok w a hS ha)
def AED (N:Nat)(ds:List Deferred)(x:Exit)(Q:Exit->Act->World->Prop)(s:Base)(e:Env)(m:List Piece):Prop:=∀ ok w a,St s ok m w->Sat N ok w e a->Q x { a with defers:=ds } w
theorem VO (h:AED N ds .ret Q s e m):ACD P N ds .ret Q s e m:=λok w a hS ha=>wp_ret (h ok w a hS ha)
theorem ES {c:Code}{Q':Exit->Act->World->Prop}(h:ACD P N ds c Q' s e m):AED N ds .normal (Exit.then (λa w=>c.wp P Q' a w) Q) s e m:=h
theorem Fe {id:Nat}(h:AED N ds .normal Q s e m):AED N ds .normal (Exit.inBlock id Q) s e m:=h
theorem VP {id:Nat}{α:Type}(I:α->Env)(M:α->List Piece)(h:AL P N l.toArray (Exit.then (λa w=>∃ z ok,Sat N ok w (I z) a/\St s ok (M z) w) λ_ _ _=>False) s l e m)(h2:∀ z,AED N ds .normal Q s (I z) (M z)):ACD P N ds (.region id l.toArray false) Q s e m:=λok w a hS ha=>by
 refine wp_region_lit (PY (λx a' w' hx=>?_) _ _ _ (VX (ds:=ds) (λa w ⟨_,_,g,_⟩=>g.defers) l a w (h.run ok w a hS ha)));cases x
 case normal=>
  obtain⟨a0,rfl,z,ok',g1,g2⟩:=hx;exact h2 z ok' w' a0 g2 g1
 all_goals exact hx.elim
theorem VK {K:AV->List Piece->Prop}{rs:List ResultVar}{vs:List AV}{m':List Piece}{x:Exit}{D:Nat}(hr:fn.results=rs.toArray)(hm:m.Perm (.obj D (.deferred (some []))::m1))(h:Ress P N s e (.obj D (.deferred none)::m1) rs vs)(hx:x=.ret\/x=.normal)(hK:K (L6 vs) m')(hs:m'.Sublist m1) :
  AED N [{ target:=.collected D,args:=#[] }] x (bodyPostM Fence.wide 0 P fn (Back s K)) s e m:=λok w a hS0 ha0=>by
 have hS':=hS0.perm hm.symm;have ho:=(hS'.at_ (.obj D (.deferred (some []))) sm).1;obtain⟨hS,g2⟩:=St.setObj (pre:=[]) (o':=.deferred none) hS' rfl;have ha:=ha0.stp g2;obtain⟨us,h1,h2⟩:=XT (w:=w.putObj D (.deferred none)) hS ha h;have hlen:=h1.length;have h3:(results fn a.tmps).run P (w.putObj D (.deferred none))=.ok (if hh:us.toArray.size=1 then us.toArray[0] else .tuple us.toArray) (w.putObj D (.deferred none)):=by
  have h5:results fn a.tmps=(do let vs <- fn.results.mapM (NG a);pure (if h:vs.size=1 then vs[0] else .tuple vs)):=by
   unfold results;congr 2
  rw[h5,hr,Array.mapM_eq_mapM_toList];simp[h2]
 have h4:RV ok (w.putObj D (.deferred none)) (L6 vs) (if hh:us.toArray.size=1 then us.toArray[0] else .tuple us.toArray):=by
  match vs,us,h1,hlen with
  | [v],us,⟨u,r,e1,e2,e3⟩,_=>
   obtain rfl:=(show r=[] from e3);subst e1;exact RV.of0 e2
  | [],us,h1,_=>
   obtain rfl:=(show us=[] from h1);exact⟨[],rfl,rfl⟩
  | v1::v2::vs,us,h1,hlen=>
   have:¬ us.toArray.size=1:=by simp[hlen]
   rw[dif_neg this];exact⟨us,rfl,h1⟩
 have hL:LeavesInM Fence.wide 0 P fn a.tmps (Back s K) [{ target:=.collected D,args:=#[] }] .returning w:=⟨sm,.inl ⟨D,_,rfl,run_takeDeferred ho,_,h3,_,m',ok,_,hK,rfl,h4,hS.less (hs.cons _)⟩⟩;rcases hx with rfl|rfl <;> exact hL
theorem WM {c:Code}{args:List AV}{K:AV->List Piece->Prop}(hf:P.funcs[f]?=some fn)(hb:fn.body=some c)(hN:fn.ntmps=N)(hl':Nat.ble args.length N=true)
  (h:∀ s:Base,s.gl=gl->AC P N c (bodyPostM Fence.wide 0 P fn (Back s K)) s (IB 0 args) m):Spec P gl f args m K:=Spec.mk λok w cargs hS hv=>by
 have hl:args.length<=N:=nlb hl';have hcl:=hv.length;refine callsIn_wide.1 (callsIn_of_wp_marks (n:=0) hf hb trivial ((wpIn_wide (n:=0)).2 ((h _ rfl).run ok w _ hS ⟨?_,rfl,?_⟩)))
 ·simp[hN];omega
 intro t v ht;obtain⟨_,h2⟩:=UZ args 0 t v ht;simp only[Nat.sub_zero] at h2;obtain⟨u,h3,h4⟩:=hv.get h2;have hlt:t<cargs.length:=(List.getElem?_eq_some_iff.1 h3).1;have h5:cargs[t]=u:=(List.getElem?_eq_some_iff.1 h3).2;have h6:=RV.of0 h4;simpa[Array.getElem?_append,hlt,h5] using h6
end
end
end Av
