/- . -/
import Derived.Test.YtcdbijbhifhkeaaGreatDoorV18
import Derived.Test.YtcdbijbhifhkeaaGreatDoorV19
namespace Av
open Go Go.RowKit Tw
theorem a4o {n k:Nat}{pre post:List AV}{l:Bs}{j o:Nat}{c:UInt8}(hk:l.length=k)(hj:j<l.length)(ho:o=(pre.map AV.size).sum+j):uP (I5 c) 8 (.agg n (pre++.agg k (l.map I5)::post)) o=some (.agg n (pre++.agg k ((l.set j c).map I5)::post)):=by
 rw[List.map_set];exact Mi inferInstance (by simpa using hj) rfl rfl (by rw[List.getElem_map];rfl) (by simpa using hk) ho
end Av
namespace Go.Proofs.Z
open Go Go.RowKit Tw Av
def Y2 (x:Bs):Hsh:=if h:x.length=32 then ⟨x,h⟩ else G8
theorem TU {x:Bs}(h:x.length=32):(Y2 x).l=x:=by unfold Y2;rw[dif_pos h]
instance c2g {x:Bs}:Ans Tryz.prog GL 228 [str x] True (.tup [hA (Y2 x),int (if x.length=32 then 0 else 10)]):=⟨λ_=>by
 refine qE Tryz.func228 rfl Tryz.ntmps228 rfl (λ_ hs=>?_);repeat' first|refine Yz ?_|intro
 by_cases h:x.length=32
 ·rw[if_pos h];repeat' first|refine Yz ?_|intro
  rename_i g2 g4;refine VH (l:=zeros 32) (a:=x) rfl ?_;repeat' first|refine Yz ?_|intro
  refine x9 ?_;have e:vE (zeros 32) x=x:=by
   unfold vE;rw[List.take_of_length_le (by simp[zeros,h]),List.drop_of_length_le (by simp[zeros,h]),List.append_nil]
  rw[e,hA,TU h];rfl
 rw[if_neg h];repeat' first|refine Yz ?_|intro
 refine x9 ?_;unfold Y2;rw[dif_neg h];rfl⟩
def U0 (c:Int)(l:List Bs):Bs:=r9 c (l.flatMap (r9 c))
theorem CJ (c:Int)(s:Bs):(r9 c s).length<=16777219:=by simp[r9,xJ,gQ,List.length_take];omega
instance {c:Int}{l:List Bs}:LenLe (U0 c l) 16777219:=⟨CJ _ _⟩
theorem Bn (c:Int):∀ l:List Bs,(l.flatMap (r9 c)).length<=l.length*16777219
 | []=>by simp
 | s::l=>by
  have h1:=CJ c s;have h2:=Bn c l;rw[List.flatMap_cons,lla,List.length_cons,Nat.add_mul];omega
instance b9z {c:Int}{l:List Bs}{xs:List AV}{id:Option Value}[hx:Strs xs l]:Ans Tryz.prog GL 161 [.lit (.int .u8 c),.sl 1 xs id] ((0<=c/\c<256)/\l.length<=8000000) (str (U0 c l)):=⟨λhp=>by
 obtain⟨hc,hl⟩:=hp;have h:=hx.out;subst h;have hm:(l.map str).length=l.length:=llm _;refine qE Tryz.func161 rfl Tryz.ntmps161 rfl (λ_ hs=>?_);repeat' first|refine Yz ?_|intro
 rename_i g5;refine H7 (α:=Nat × {m:List Av.Piece // True}) (λq=>[(0,.lit (.int .u8 c)),(5,ptr g5),(8,.sl 1 (l.map str) id),(9,int l.length),(10,int q.1)]) (λq=>q.2.1) (λq=>q.1<=l.length/\Bld g5 ((l.take q.1).flatMap (r9 c)) q.2.1) (λq=>l.length-q.1) (0,⟨[.var g5 211 (.agg 2 [.lit (.pointer none),K5])],trivial⟩) ⟨rfl,rfl,rfl,by rw[<- hm];rfl,rfl,trivial⟩ slr ⟨Nat.zero_le _,none,.inl rfl,.inl ⟨rfl,rfl⟩⟩ ?_;rintro⟨i,m,_⟩ ⟨h1,h2⟩;dsimp only at h1 h2 ⊢;repeat' first|refine Yz ?_|intro
 refine G7 (λhlt=>?_) (λhlt=>?_)
 ·have hil:i<l.length:=om
  have hfl:=Bn c (l.take i);have hfl2:=CJ c l[i];have hti:(l.take i).length<=l.length:=by simp;omega
  repeat' first|refine Yz ?_|intro
  refine J6 (args:=[ptr g5,str (r9 c l[i])]) m [] (by rw[hs];exact Zd h2 om) (λu m1 hh=>?_) (by rw[List.append_nil]);obtain⟨rfl,hb⟩:=hh;rw[List.append_nil];repeat' first|refine Yz ?_|intro
  refine y7 (i+1,⟨m1,trivial⟩) za slr ⟨hil,?_⟩ (by dsimp only;omega);rw[List.take_succ_eq_append_getElem hil,List.flatMap_append];simpa using hb
 obtain rfl:i=l.length:=by omega
 rw[List.take_length] at h2;have hfl:=Bn c l;repeat' first|refine Yz ?_|intro
 refine J6 (args:=[ptr g5]) m [] (by rw[hs];exact Dn h2 om) (λu m1 hh=>?_) (by rw[List.append_nil]);subst hh;exact bH⟩
def jA (x:Bs)(i:Nat):Bs:=x.take i++zeros (32-i)
theorem TI {x:Bs}{i:Nat}(hx:x.length=32)(hi:i<=32):(jA x i).length=32:=by simp[jA,zeros,hx];omega
theorem Ac {x:Bs}{i:Nat}(hx:x.length=32)(hi:i<32):(jA x i).set i (x[i]'(by omega))=jA x (i+1):=by
 unfold jA;have h1:(x.take i).length=i:=by simp[hx];omega
 have h2:∀ (a b:List UInt8) (j:Nat) (c:UInt8),a.length=j->(a++b).set j c=a++b.set 0 c:=λa b j c h=>by
  subst h;simp
 rw[h2 _ _ _ _ h1,List.take_succ_eq_append_getElem om,laa];congr 1
 rw[show 32-i=(32-(i+1))+1 by omega];rfl
theorem Ad {x:Bs}(hx:x.length=32):jA x 32=x:=by
 unfold jA;rw[List.take_of_length_le om,Nat.sub_self];simp[zeros]
end Go.Proofs.Z

namespace Go.Proofs.Z
open Go Go.RowKit Tw Av
theorem yL {c:Int}{s:Bs}(h:s.length<=16777215):r9 c s=UInt8.ofNat c.toNat::UInt8.ofNat (s.length / 65536)::UInt8.ofNat (s.length / 256)::UInt8.ofNat s.length::s:=by
 unfold r9 xJ;rw[List.take_of_length_le (by simp[gQ];omega)]
theorem a6s {n:Nat}(h:n<=16777215):fD (UInt8.ofNat (n / 65536)) (UInt8.ofNat (n / 256)) (UInt8.ofNat n)=n:=by
 unfold fD;rw[UInt8.toNat_ofNat',UInt8.toNat_ofNat',UInt8.toNat_ofNat'];omega
theorem Cj {c most:Int}{s r:Bs}(h0:0<=c)(h1:c<256)(h2:(s.length:Int)<=most)(h3:s.length<=16777215):bO c most false (r9 c s++r)=some (s,r):=by
 rw[yL h3];simp only[List.cons_append];rw[bO,a6s h3,if_pos]
 ·simp
 refine⟨rfl,?_,h2,sm⟩;rw[UInt8.toNat_ofNat'];omega
theorem yV {c most:Int}{s r:Bs}(h0:0<=c)(h1:c<256)(h2:(s.length:Int)<=most)(h3:s.length<=16777215):I7 c most (r9 c s++r) false=s/\l9 c most (r9 c s++r) false=r/\F8 c most (r9 c s++r) false=false:=by
 have h:=Cj (r:=r) h0 h1 h2 h3;unfold I7 l9 F8;rw[h];exact⟨rfl,rfl,rfl⟩
theorem GU:∀ f n,(aM f n).length<=f
 | 0,_=>Nat.le_refl _
 | f+1,n=>by
  rw[aM];split
  ·simp
  have:=GU f (n / 256);simp;omega
theorem Vw:∀ f n,n<256 ^ f->numOf (aM f n)=n
 | 0,n,h=>by simp at h;subst h;rfl
 | f+1,n,h=>by
  rw[aM];split
  ·rename_i h0;subst h0;rfl
  rw[NV,Vw f (n / 256) (by rw[Nat.pow_succ] at h;omega),UInt8.toNat_ofNat'];omega
theorem oI {c most:Int}{n:Int}{r:Bs}(h0:0<=c)(h1:c<256)(h2:0<=n)(h3:n<=most)(h4:most<=9223372036854775807):N7 c most (y9 c n++r) false=n/\l9 c 8 (y9 c n++r) false=r/\O1 c most (y9 c n++r) false=false:=by
 have hd:(digits n.toNat).length<=8:=GU 8 _;have hn:numOf (digits n.toNat)=n.toNat:=Vw 8 _ (by show n.toNat<18446744073709551616;omega);have hl:nM (digits n.toNat)=false:=Ci 8 _ (by show n.toNat<18446744073709551616;omega);have h:=yV (c:=c) (most:=8) (s:=digits n.toNat) (r:=r) h0 h1 om om;have e:y9 c n=r9 c (digits n.toNat):=rfl;have hN:vU c (y9 c n++r) false=n.toNat:=by
  rw[NC,e,h.1,hl,hn];rfl
 have hB:uG c (y9 c n++r) false=false:=by
  unfold uG;rw[e,h.1,h.2.2,hl];rfl
 refine⟨?_,by rw[e];exact h.2.1,?_⟩
 ·rw[N7,hN,if_neg om];omega
 rw[O1,hN,hB,dZ om];rfl
theorem Zi {c most:Int}(h0:0<=c)(h1:c<256):∀ (l:List Bs) (f:Nat),l.length<f->(∀ s∈l,(s.length:Int)<=most/\s.length<=16777215)->jW c most f (l.flatMap (r9 c)) false=(l,false)
 | [],f,hf,_=>by
  rcases f with _|f
  ·omega
  exact Dt
 | s::l,f,hf,hl=>by
  rcases f with _|f
  ·omega
  rw[List.flatMap_cons];have h:=yV (r:=l.flatMap (r9 c)) h0 h1 (hl s sm).1 (hl s sm).2;have ih:=Zi h0 h1 l f (by simp at hf;omega) (λt ht=>hl t (by simp[ht]));have hne:r9 c s++l.flatMap (r9 c)≠[]:=by rw[yL (hl s sm).2];simp
  rw[jW,if_neg (by simp[hne]),h.1,h.2.1,h.2.2,ih]
theorem Tz {c:Int}:∀ l:List Bs,l.length<=(l.flatMap (r9 c)).length
 | []=>by simp
 | s::l=>by
  have:=Tz (c:=c) l;have h2:4<=(r9 c s).length:=by simp[r9,xJ]
  rw[List.flatMap_cons,lla,List.length_cons];omega
theorem RN {c many most:Int}{l:List Bs}{r:Bs}(h0:0<=c)(h1:c<256)(h2:(l.length:Int)<=many)(h3:∀ s∈l,(s.length:Int)<=most/\s.length<=16777215)(h4:(l.flatMap (r9 c)).length<=16777215):kM c many most (U0 c l++r) false=l/\l9 c 16777215 (U0 c l++r) false=r/\eY c many most (U0 c l++r) false=false:=by
 have h:=yV (c:=c) (most:=16777215) (s:=l.flatMap (r9 c)) (r:=r) h0 h1 om h4;have e:U0 c l=r9 c (l.flatMap (r9 c)):=rfl;have hX:IC c most (l.flatMap (r9 c))=(l,false):=Zi h0 h1 l _ (by have:=Tz (c:=c) l;omega) h3;have hb:BR false (l,false) many=false:=by
  unfold BR;rw[dZ (by show ¬ many<(l.length:Int);omega)];rfl
 refine⟨?_,by rw[e];exact h.2.1,?_⟩
 ·unfold kM;rw[e,h.1,h.2.2,hX];unfold FQ;rw[hb];rfl
 unfold eY;rw[e,h.1,h.2.2,hX,hb]
theorem KO {c:Int}{n:Nat}:∀ {l:List Bs},(∀ s∈l,s.length<=n)->n<=16777215->(l.flatMap (r9 c)).length<=l.length*(n+4)
 | [],_,_=>by simp
 | s::l,h,hn=>by
  have h1:=KO (c:=c) (l:=l) (λt ht=>h t (by simp[ht])) hn;have h2:=h s sm;rw[List.flatMap_cons,lla,List.length_cons,Nat.add_mul,yL om];simp only[List.length_cons];omega

def FC (q:Nat × Nat)(c:UInt8):Nat × Nat:=((q.1+c.toNat)%65521,(q.2+(q.1+c.toNat)%65521)%65521)
def yP (s:Bs):Nat × Nat:=s.foldl FC (1,0)
def pU (s:Bs):Int:=((yP s).2*65536+(yP s).1:Nat)
theorem Ie (s:Bs):(yP s).1<65521/\(yP s).2<65521:=by
 unfold yP
 suffices h:∀ (s:Bs) (q:Nat × Nat),q.1<65521/\q.2<65521->(s.foldl FC q).1<65521/\(s.foldl FC q).2<65521 from h s _ dc
 intro s
 induction s with
 | nil=>exact λq h=>h
 | cons c s ih=>exact λq _=>ih _ ⟨Nat.mod_lt _ dc,Nat.mod_lt _ dc⟩
theorem Ic (s:Bs):0<=pU s/\pU s<=4294967295:=by
 have:=Ie s;unfold pU;omega
def I8 (s:Bs):Bs:=r9 82 s++y9 83 (pU (r9 82 s))
def bC (s:Bs):Bs:=l9 82 1048576 s false
def jM (s:Bs):Bool:=F8 82 1048576 s false
def yN (s:Bs):Bs:=I7 82 1048576 s false
def mQ (s:Bs):Bs:=l9 83 8 (bC s) (jM s)
def EY (s:Bs):Bool:=O1 83 4294967295 (bC s) (jM s)
def EZ (s:Bs):Int:=N7 83 4294967295 (bC s) (jM s)
def jZ (s:Bs):Bool:=!EY s&&decide (EZ s=pU (s.take (s.length-(bC s).length)))
theorem a3T (s:Bs):4<=(I8 s).length:=by
 unfold I8;rw[lla];have:4<=(r9 82 s).length:=by
  unfold r9 xJ;simp
 omega
theorem a1V {s r:Bs}(h:s.length<=1048576):jZ (I8 s++r)=true/\yN (I8 s++r)=s/\mQ (I8 s++r)=r:=by
 obtain⟨a1,a2,a3⟩:=yV (c:=82) (most:=1048576) (s:=s) (r:=y9 83 (pU (r9 82 s))++r) dc dc om om;have e:I8 s++r=r9 82 s++(y9 83 (pU (r9 82 s))++r):=by unfold I8;rw[laa]
 have hs:=Ic (r9 82 s);obtain⟨b1,b2,b3⟩:=oI (c:=83) (most:=4294967295) (n:=pU (r9 82 s)) (r:=r) dc dc hs.1 hs.2 dc;have hA:bC (I8 s++r)=y9 83 (pU (r9 82 s))++r:=by unfold bC;rw[e,a2]
 have hB:jM (I8 s++r)=false:=by unfold jM;rw[e,a3]
 refine⟨?_,by unfold yN;rw[e,a1],by unfold mQ;rw[hA,hB,b2]⟩;unfold jZ EY EZ;rw[hA,hB,b1,b3,e,lla,Nat.add_sub_cancel,List.take_left']
 ·rw[dT rfl];rfl
 rfl
theorem a1X {s:Bs}(h:jZ s=true):(mQ s).length<s.length:=by
 unfold jZ at h;rw[bet,Bool.not_eq_true'] at h;have hb:jM s=false:=by
  cases e:jM s with
  | false=>rfl
  | true=>
   have:=h.1;unfold EY O1 at this;rw[e] at this;simp[uG,F8,CY] at this
 have h1:=XD (c:=82) (most:=1048576) (s:=s) (b:=false) hb;have h2:=(aU 83 8 (bC s) (jM s)).1;show (l9 83 8 (bC s) (jM s)).length<s.length;have:(bC s).length<s.length:=h1;omega
def sK:Nat->Bs->List Bs × Bs
 | 0,s=>([],s)
 | f+1,s=>if jZ s=true then (yN s::(sK f (mQ s)).1,(sK f (mQ s)).2) else ([],s)
def xD (s:Bs):List Bs:=(sK (s.length+1) s).1
def II (s:Bs):Bs:=(sK (s.length+1) s).2
def nL (l:List Bs):Bs:=l.flatMap I8
theorem a1W:jZ []=false:=by kernel_rfl
theorem a0S:∀ (l:List Bs) (f:Nat),l.length<f->(∀ s∈l,s.length<=1048576)->sK f (nL l)=(l,[])
 | [],f,hf,_=>by
  rcases f with _|f
  ·omega
  show (if jZ []=true then _ else _)=_;rw[a1W];rfl
 | s::l,f,hf,h=>by
  rcases f with _|f
  ·omega
  have e:nL (s::l)=I8 s++nL l:=rfl;obtain⟨a,b,c⟩:=a1V (s:=s) (r:=nL l) (h s sm);have ih:=a0S l f (by simp at hf;omega) (λt ht=>h t (by simp[ht]));rw[e,sK,a,b,c,ih];rfl
theorem a6j (l:List Bs):l.length<=(nL l).length:=by
 induction l with
 | nil=>exact Nat.zero_le _
 | cons s l ih=>
  have e:nL (s::l)=I8 s++nL l:=rfl;have:=a3T s;rw[e,lla,List.length_cons];omega
theorem b2i {l:List Bs}(h:∀ s∈l,s.length<=1048576):xD (nL l)=l/\II (nL l)=[]:=by
 have:=a0S l ((nL l).length+1) (Nat.lt_succ_of_le (a6j l)) h;unfold xD II;rw[this];exact⟨rfl,rfl⟩

section
variable {s:Bs}{a:Int}{x:DvX}{w:Int × Bs}
structure SlX where
 m:MkX
 l:Bs
 br:Bool
def Y6 (n:Int):Int:=(n-2)*64
def kU (x:DvX)(k:Nat):Bs:=(List.range k).flatMap λ(i:Nat)=>fF x (2+(i:Int))
def ZC (b:Int):Nat:=((b+63) / 64).toNat
def cZ (x:DvX)(b:Int):Bs:=(kU x (ZC b)).take b.toNat
def L9 (s:Bs):Bs:=s.drop (s.length-s.length%64)
def Q6 (x:DvX):MkX:=DK (fF x 0) (fF x 1)
def AZ (x:DvX):Int:=if x.n<=2 then 1 else if x.on=false then 14 else if Y6 x.n<(Q6 x).b then 10 else
 if II (cZ x (Q6 x).b)=[]/\((xD (cZ x (Q6 x).b)).length:Int)=(Q6 x).c then 0 else 10
def uR (x:DvX):SlX:=⟨Q6 x,cZ x (Q6 x).b,false⟩
def NR (x:DvX):List Bs:=xD (cZ x (Q6 x).b)
def aA (s:Bs):Bs:=s.take 64++List.replicate (64-s.length) 0
theorem YP (s:Bs):(aA s).length=64:=by
 unfold aA;simp;omega
theorem Ny {k:Nat}(h:k<=s.length)(hk:k<=64):(aA s).take k=s.take k:=by
 unfold aA;rw[List.take_append_of_le_length (by rw[List.length_take];omega),List.take_take,Nat.min_eq_left hk]
theorem a4Z :(aA s).take s.length=s.take 64:=by
 by_cases h:s.length<=64
 ·rw[Ny (Nat.le_refl _) h,List.take_length,List.take_of_length_le h]
 unfold aA;rw[show 64-s.length=0 by omega,List.replicate_zero,List.append_nil,List.take_of_length_le (by rw[List.length_take];omega)]
def wW:Nat->Int->Bs->List (Int × Bs)
 | 0,_,_=>[]
 | f+1,a,s=>if s=[] then [] else (a,aA s)::wW f (a+1) (s.drop 64)
def nI:Nat->DvX->Int->Bs->DvX × Int
 | 0,x,_,_=>(x,0)
 | f+1,x,a,s=>if s=[] then (x,0) else if (bN x a (aA s)).2=0 then nI f (bN x a (aA s)).1 (a+1) (s.drop 64) else bN x a (aA s)
def uQ (x:DvX)(a:Int)(s:Bs):DvX × Int:=nI s.length x a s
theorem SA (f:Nat)(x:DvX)(a:Int):nI f x a []=(x,0):=by cases f <;> simp[nI]
theorem YE:∀ {f g:Nat} {x:DvX} {a:Int} {s:Bs},s.length<=f->s.length<=g->nI f x a s=nI g x a s
 | 0,g,x,a,s,h,_=>by
  obtain rfl:=List.length_eq_zero_iff.1 (Nat.le_zero.1 h);rw[SA,SA]
 | f+1,0,x,a,s,_,h=>by
  obtain rfl:=List.length_eq_zero_iff.1 (Nat.le_zero.1 h);rw[SA,SA]
 | f+1,g+1,x,a,s,h,h'=>by
  unfold nI;by_cases hs:s=[]
  ·rw[if_pos hs,if_pos hs]
  rw[if_neg hs,if_neg hs,YE (f:=f) (g:=g) (by rw[List.length_drop];omega) (by rw[List.length_drop];omega)]
theorem a4u (hs:s≠[]):uQ x a s=if (bN x a (aA s)).2=0 then uQ (bN x a (aA s)).1 (a+1) (s.drop 64) else bN x a (aA s):=by
 have hl:0<s.length:=List.length_pos_iff.2 hs;unfold uQ;rw[YE (f:=s.length) (g:=s.length-1+1) (Nat.le_refl _) om];rw[nI,if_neg hs,YE (f:=s.length-1) (g:=(s.drop 64).length) (by rw[List.length_drop];omega) (Nat.le_refl _)]
def K4 (s:SlX)(r:Bs):MkX:=⟨s.m.e+1,s.m.b+(I8 r).length,s.m.c+1⟩
def eF (x:DvX)(s:SlX)(r:Bs):DvX × Int:=uQ x (2+s.m.b / 64) (L9 s.l++I8 r)
def fI (x:DvX)(s:SlX)(r:Bs):DvX × Int:=kV (eF x s r).1
def fH (x:DvX)(s:SlX)(r:Bs):DvX × Int:=bN (fI x s r).1 ((K4 s r).e%2) (V7 (K4 s r))
def jG (x:DvX)(s:SlX)(r:Bs):DvX × Int:=kV (fH x s r).1
def sD (x:DvX)(s:SlX)(r:Bs):DvX × SlX × Int:=
 if s.br=true then (x,s,13) else if 1048576<r.length then (x,s,11) else if Y6 x.n-s.m.b<(I8 r).length then (x,s,15)
 else if (eF x s r).2≠0 then ((eF x s r).1,{ s with br:=true },(eF x s r).2)
 else if (fI x s r).2≠0 then ((fI x s r).1,{ s with br:=true },(fI x s r).2)
 else if (fH x s r).2≠0 then ((fH x s r).1,{ s with br:=true },(fH x s r).2)
 else if (jG x s r).2≠0 then ((jG x s r).1,{ s with br:=true },(jG x s r).2)
 else ((jG x s r).1,⟨K4 s r,s.l++I8 r,false⟩,0)
structure DvOk (x:DvX):Prop where
 n:0<=x.n/\x.n<=4096
 mn:MpN x.es
 el:∀ e∈x.es,e.2.1.length=64
 wl:∀ w∈x.ws,w.2.length=64
 lf:0<=x.lf/\x.lf<=1000000
theorem Fy:IQ.length=64:=by simp[IQ]
theorem GN (h:DvOk x)(a:Int):(M0 x a).length=64:=by
 unfold M0 iI;cases hf:x.es.find? λe=>decide (e.1=a) with
 | none=>exact Fy
 | some e=>exact h.el e (List.mem_of_find?_eq_some hf)
theorem a1f (h:DvOk x)(hs:gY x.ws a=some s):s.length=64:=by
 unfold gY at hs;cases hf:x.ws.reverse.find? λw=>decide (w.1=a) with
 | none=>rw[hf] at hs;cases hs
 | some w=>
  rw[hf] at hs;injection hs with hs
  subst hs;exact h.wl w (List.mem_reverse.1 (List.mem_of_find?_eq_some hf))
theorem Bw (h:DvOk x)(a:Int):(fF x a).length=64:=by
 unfold fF;cases hf:gY x.ws a with
 | none=>exact GN h a
 | some s=>exact a1f h hf
theorem KR (x:DvX)(k:Nat):kU x (k+1)=kU x k++fF x (2+(k:Int)):=by
 unfold kU;rw[List.range_succ,List.flatMap_append];simp
theorem KS {x:DvX}(h:DvOk x):∀ k,(kU x k).length=64*k
 | 0=>rfl
 | k+1=>by
  rw[KR,lla,KS h k,Bw h];omega
theorem Pg {es:List MpE}{ck:Nat}{P:Bs->Prop}(h:∀ e∈es,P e.2.1)(hs:P s):∀ e∈fU es ck a s,P e.2.1:=by
 unfold fU;intro e he;split at he
 ·obtain⟨i,hi,rfl⟩:=List.mem_iff_getElem.1 he;rw[List.getElem_modify];split
  ·exact hs
  exact h _ (List.getElem_mem _)
 rcases List.mem_append.1 he with he|he
 ·exact h e he
 obtain rfl:=List.mem_singleton.1 he;exact hs
theorem Ur (h:DvOk x)(hw:w.2.length=64):DvOk (jV x w):=by
 refine⟨h.n,Qk h.mn,?_,h.wl,h.lf⟩;intro e he;unfold jV OH at he;dsimp only at he;split at he
 ·exact Pg (P:=λs=>s.length=64) h.el hw e ((List.eraseIdx_sublist _ _).subset he)
 exact Pg (P:=λs=>s.length=64) h.el hw e he
theorem Sq:∀ {ws:List (Int × Bs)} {x:DvX},DvOk x->(∀ w∈ws,w.2.length=64)->DvOk (ws.foldl jV x)
 | [],_,h,_=>h
 | w::ws,x,h,hw=>Sq (ws:=ws) (Ur h (hw w sm)) λv hv=>hw v (by simp[hv])
theorem Ut (h:DvOk x):DvOk (iL x):=by
 have:=Sq h h.wl;exact⟨this.n,this.mn,this.el,by simp[iL],this.lf⟩
theorem UG (h:DvOk x)(hm:mE x=true):DvOk (V3 x):=by
 refine⟨h.n,h.mn,h.el,h.wl,?_⟩;unfold V3 mE at *;have:=h.lf;dsimp only;split
 ·rename_i ha;rw[ha] at hm;simp at hm;omega
 exact this
theorem Bz (h:DvOk x):DvOk (vD x):=⟨h.n,h.mn,h.el,h.wl,h.lf⟩
theorem Uo (h:DvOk x)(hw:w.2.length=64):DvOk (nN x w):=by
 refine⟨h.n,h.mn,h.el,?_,h.lf⟩;intro v hv;rcases List.mem_append.1 hv with hv|hv
 ·exact h.wl v hv
 obtain rfl:=List.mem_singleton.1 hv;exact hw
theorem OX (h:DvOk x):DvOk (bN x a s).1:=by
 unfold bN;split
 ·exact h
 split
 ·exact h
 rename_i hh;have hl:s.length=64:=Classical.byContradiction λe=>hh (.inr e);split
 ·exact Uo (Bz h) hl
 rename_i hm;exact Uo (UG h (by simpa using hm)) hl
theorem Ca (h:DvOk x):DvOk (kV x).1:=by
 unfold kV;split
 ·exact h
 split
 ·exact Bz h
 rename_i hm;exact Ut (UG h (by simpa using hm))
theorem Ms:∀ {f:Nat} {x:DvX} {a:Int} {s:Bs},DvOk x->DvOk (nI f x a s).1
 | 0,_,_,_,h=>h
 | f+1,x,a,s,h=>by
  unfold nI;split
  ·exact h
  split
  ·exact Ms (OX h)
  exact OX h
theorem Mt (h:DvOk x):DvOk (uQ x a s).1:=Ms h
theorem Wu {k:List Bool}{torn cut:Int}{i:Nat}(h:DvOk x)(hw:w.2.length=64):DvOk (kW x k torn cut i w):=by
 unfold kW;split
 ·refine Ur h ?_;dsimp only;split
  ·have:=GN h w.1;rw[lla,List.length_take,List.length_drop];omega
  exact hw
 exact h
theorem Cn {k:List Bool}{torn cut:Int}:∀ {ws:List (Int × Bs)} {i:Nat} {x:DvX},DvOk x->(∀ w∈ws,w.2.length=64)->DvOk (qJ k torn cut i x ws)
 | [],_,_,h,_=>h
 | w::ws,i,x,h,hw=>Cn (ws:=ws) (Wu h (hw w sm)) λv hv=>hw v (by simp[hv])
theorem a9z {k:List Bool}{torn cut:Int}(h:DvOk x):DvOk (Y3 x k torn cut):=by
 unfold Y3;split
 ·exact h
 have:=Cn (k:=k) (torn:=torn) (cut:=cut) (i:=0) h h.wl;exact⟨this.n,this.mn,this.el,sm,this.lf⟩
theorem a9A {k:Int}(h:DvOk x)(hk:k<=1000000):DvOk (wM x k):=⟨h.n,h.mn,h.el,h.wl,by unfold wM;dsimp only;omega⟩
theorem GI:∀ {ws:List (Int × Bs)} {x:DvX},(ws.foldl jV x).n=x.n/\(ws.foldl jV x).on=x.on/\(ws.foldl jV x).ar=x.ar/\(ws.foldl jV x).lf=x.lf
 | [],_=>⟨rfl,rfl,rfl,rfl⟩
 | w::ws,x=>GI (ws:=ws) (x:=jV x w)
end
end Go.Proofs.Z

namespace Go.Proofs.Z
open Go Go.RowKit Tw Av Go.Proofs.Tryz
section
variable {x:DvX}{gm:Nat}{a:Int}
instance : TyMp prog 122 3 9 := ⟨kr, by kernel_rfl, by kernel_rfl⟩
abbrev CE (w:Int × Bs):AV:=.agg 2 [int w.1,str w.2]
abbrev BP (gm:Nat)(x:DvX)(vw:Value):AV:=.agg 7 [int x.n,aK gm,.sl 2 (x.ws.map CE) (some vw),d9 x.on,d9 x.ar,int x.lf,int x.st]
structure DvI where
 gd:Nat
 gm:Nat
 vw:Value
variable {I:DvI}
abbrev I6 (I:DvI)(x:DvX):List Av.Piece:=[.var I.gd 125 (BP I.gm x I.vw),.obj I.gm (dV x.es x.ck),.tail 136 2 I.vw]
instance c2n {g:Nat}{vw:Value}:AnsM prog GL 126 g [] 125 (BP gm x vw) True (int x.n) (BP gm x vw):=⟨λ_=>by
 refine zc func126 ntmps126 λ_ hs=>?_;repeat' first|refine Vz ?_|intro
 exact j4 _ ⟨rfl,rfl⟩ slr⟩
instance c2o {g:Nat}{vw:Value}:AnsM prog GL 111 g [int a] 125 (BP gm x vw) True (d9 (mF x a)) (BP gm x vw):=⟨λ_=>by
 refine zc func111 ntmps111 λ_ hs=>?_;unfold mF;by_cases h1:0<=a
 ·rw[show decide (0<=a/\a<x.n)=decide (a<x.n) by simp[h1]];repeat' first|refine O ?_|intro
  exact j4 _ ⟨rfl,rfl⟩ slr
 rw[dZ (show ¬ (0<=a/\a<x.n) from λh=>h1 h.1)];repeat' first|refine O ?_|intro
 exact j4 _ ⟨rfl,rfl⟩ slr⟩
attribute [local irreducible] mF
instance b9b {k:Nat}:ImpT (.lit (.slice none 0 0)) (.sl k [] (some (.slice none 0 0))):=⟨ImpC.nilT⟩
theorem a7n {n:Int}:ImpC (.agg 7 [int n,aK gm,.lit (.slice none 0 0),d9 true,d9 false,int 0,int 0]) (BP gm (dN n) (.slice none 0 0)):=(inferInstance:ImpT _ (.agg 7 [int n,aK gm,.sl 2 [] (some (.slice none 0 0)),d9 true,d9 false,int 0,int 0])).imp
theorem Tp {n:Int}(h1:1<=n)(h2:n<=4096):Av.Spec prog GL 30 [int n] [] λu m=>∃ I,u=ptr I.gd/\m=I6 I (dN n):=by
 refine zc func30 ntmps30 λ_ hs=>?_;repeat' first|refine O ?_|intro
 refine b2E (λgm=>?_);repeat' first|refine O ?_|intro
 rename_i gd;refine IL (g:=gd) a7n ?_;refine zR (λok w h=>h.full 136 2 none 0) ?_;refine zR (λok w h=>h.perm (m':=I6 ⟨gd,gm,.slice none 0 0⟩ (dN n)) (List.perm_append_comm (l₁:=[_,_]) (l₂:=[_]))) ?_;exact j4 _ ⟨_,rfl,rfl⟩ slr
theorem a8O {k:Int}:Av.Spec prog GL 110 [ptr I.gd,int k] (I6 I x) λu m=>u=.tup []/\m=I6 I (wM x k):=by
 refine zc func110 ntmps110 λ_ hs=>?_;repeat' first|refine O ?_|intro
 exact iV _ ⟨rfl,rfl⟩ slr
theorem Bl {w:Int × Bs}:Av.Spec prog GL 74 [ptr I.gd,CE w] (I6 I x) λu m=>u=.tup []/\m=I6 I (jV x w):=by
 refine zc func74 ntmps74 λ_ hs=>?_;repeat' first|refine O ?_|intro
 apply iX [2];exact rfl;exact rfl;kernel_rfl
 ·intro _ _;refine b2B (pre:=[]) (post:=[]) ?_ rfl;exact j5 (jJ rfl)
 ·exact rfl
 ·exact rfl
 repeat' first|refine O ?_|intro
 apply zd [];exact zg
 ·intro _ _;refine a0u ?_;exact j5 (A7 rfl rfl)
 repeat' first|refine O ?_|intro
 have hk:jV x w={ x with es:=if w.2=List.replicate (Int.toNat 64) 0 then oQ (fU x.es x.ck w.1 w.2) w.1 else fU x.es x.ck w.1 w.2,ck:=DR x.es x.ck w.1 }:=rfl;rw[hk];refine G7 (λh=>?_) (λh=>?_)
 ·rw[if_pos h];repeat' first|refine O ?_|intro
  apply iX [2];exact rfl;exact rfl;kernel_rfl
  ·intro _ _;refine b2C (pre:=[]) (post:=[]) ?_ rfl;exact j5 (jJ rfl)
  ·exact rfl
  ·exact rfl
  repeat' first|refine O ?_|intro
  refine iV _ ⟨rfl,rfl⟩ ?_;exact A8
 rw[if_neg h];repeat' first|refine O ?_|intro
 refine iV _ ⟨rfl,rfl⟩ ?_;exact A8
theorem Tj :Av.Spec prog GL 73 [ptr I.gd,int a] (I6 I x) λu m=>u=str (if mF x a=true then M0 x a else [])/\m=I6 I x:=by
 refine zc func73 ntmps73 λ_ hs=>?_;repeat' first|refine O ?_|intro
 cases hh:mF x a
 ·repeat' first|refine O ?_|intro
  exact j4 _ ⟨rfl,rfl⟩ slr
 repeat' first|refine O ?_|intro
 refine b2H ?_;repeat' first|refine O ?_|intro
 unfold M0;cases hf:iI x.es a with
 | none=>
  repeat' first|refine O ?_|intro
  refine a0u ?_;repeat' first|refine O ?_|intro
  exact j4 _ ⟨rfl,rfl⟩ slr
 | some t=>
  repeat' first|refine O ?_|intro
  exact j4 _ ⟨rfl,rfl⟩ slr
theorem a1g (l r:List (Int × Bs))(a:Int):gY (l++r) a=match gY r a with|some s=>some s|none=>gY l a:=by
 unfold gY;rw[List.reverse_append,List.find?_append];cases r.reverse.find? λw=>decide (w.1=a) <;> rfl
theorem a1e {ws:List (Int × Bs)}{k:Nat}(hk:k<ws.length):gY (ws.take (k+1)) a=if ws[k].1=a then some ws[k].2 else gY (ws.take k) a:=by
 rw[<- List.take_append_getElem hk,a1g];by_cases h:ws[k].1=a
 ·rw[if_pos h];simp[gY,h]
 rw[if_neg h];simp[gY,h]
set_option maxHeartbeats 1000000 in
theorem Bj (hon:x.on=true)(ha:mF x a=true)(hl:x.ws.length<=1000000):Av.Spec prog GL 127 [ptr I.gd,int a] (I6 I x) λu m=>u=.tup [str (fF x a),int 0]/\m=I6 I x:=by
 have hm:(x.ws.map CE).length=x.ws.length:=llm _;refine zc func127 ntmps127 λ_ hs=>?_;repeat' first|refine O ?_|intro
 rw[hon];repeat' first|refine O ?_|intro
 rw[ha];repeat' first|refine O ?_|intro
 rw[hm];refine H7 (α:=Nat) (λk=>[(0,ptr I.gd),(1,int a),(6,int ((k:Int)-1))]) (λ_=>I6 I x) (λk=>k<=x.ws.length/\gY x.ws a=gY (x.ws.take k) a) (λk=>k) x.ws.length za slr ⟨Nat.le_refl _,by rw[List.take_length]⟩ ?_;rintro k ⟨hk,hI⟩;rcases k with _|k
 ·repeat' first|refine O ?_|intro
  refine aI [] (I6 I x) [] Tj (λu m1 hh=>?_);obtain⟨rfl,rfl⟩:=hh;rw[if_pos ha];repeat' first|refine O ?_|intro
  have e:fF x a=M0 x a:=by
   unfold fF;rw[hI];rfl
  rw[e];exact j4 _ ⟨rfl,rfl⟩ slr
 rw[show ((k+1:Nat):Int)-1=(k:Int) by omega];have hk':k<x.ws.length:=hk;rw[a1e hk'] at hI;repeat' first|refine O ?_|intro
 by_cases he:x.ws[k].1=a
 ·rw[if_pos he] at hI;repeat' first|refine O ?_|intro
  have e:fF x a=x.ws[k].2:=by
   unfold fF;rw[hI];rfl
  rw[e];exact j4 _ ⟨rfl,rfl⟩ slr
 rw[if_neg he] at hI;repeat' first|refine O ?_|intro
 exact y7 k za slr ⟨om,hI⟩ (Nat.lt_succ_self _)
end
end Go.Proofs.Z

namespace Av
open Go Go.RowKit Tw
theorem Uf {P:Program}{e:TypeId}{k:IntKind}(he:P.underlying e=some (.int k))(w:World)(d:Nat):∀ (n o:Nat) (la lb:List Int),la.length=o+n->lb.length=o+n ->
  (Op.eqItems (d+1) e 1 (la.map (Value.int k)).toArray (lb.map (Value.int k)).toArray (List.range' o n)).run P w=.ok (decide (la.drop o=lb.drop o)) w
 | 0,o,la,lb,h1,h2=>by
  rw[List.drop_of_length_le (l:=la) om,List.drop_of_length_le (l:=lb) om];simp[Op.eqItems]
 | n+1,o,la,lb,h1,h2=>by
  have hp:P.plainKey e=true:=by simp[Program.plainKey,he]
  have hla:o<la.length:=om
  have hlb:o<lb.length:=om
  have ea:(la.map (Value.int k)).toArray[o*1]?=some (Value.int k la[o]):=by simp[hla]
  have eb:(lb.map (Value.int k)).toArray[o*1]?=some (Value.int k lb[o]):=by simp[hlb]
  have hq:(Op.equalIn (d+1) e (Value.int k la[o]) (Value.int k lb[o])).run P w=.ok (decide (la[o]=lb[o])) w:=by
   rw[run_equalIn_int _ d e _ _ _ _ he];rfl
  rw[List.range'_succ];simp only[Op.eqItems,Sem.run_bind,run_part_plain w hp ea,run_part_plain w hp eb,Result.andThen_ok,hq];rw[List.drop_eq_getElem_cons hla,List.drop_eq_getElem_cons hlb];by_cases h:la[o]=lb[o]
  ·simp only[h,decide_true,Bool.not_true,Bool.false_eq_true,if_false,Uf he w d n (o+1) la lb om om,List.cons.injEq,true_and]
  have hf:decide (la[o]::la.drop (o+1)=lb[o]::lb.drop (o+1))=false:=by
   rw[decide_eq_false_iff_not,List.cons.injEq];exact λe=>h e.1
  rw[hf];simp[h]
theorem Sk {ok:Ok}{w:World}{k:IntKind}{a b c d:Int}{v:Value}(hr:RV0 ok w (.agg 4 [.lit (.int k a),.lit (.int k b),.lit (.int k c),.lit (.int k d)]) v):v=.agg ([a,b,c,d].map (Value.int k)).toArray:=by
 obtain⟨cs,rfl,h⟩:=LV (RV.of0 hr);rw[RC,RCs] at h;obtain⟨_,c1,d1,rfl,g1,h⟩:=h;rw[RCs] at h;obtain⟨c2,d2,rfl,g2,h⟩:=h;rw[RCs] at h;obtain⟨c3,d3,rfl,g3,h⟩:=h;rw[RCs] at h;obtain⟨c4,d4,rfl,g4,h⟩:=h;rw[RCs] at h;subst h;rw[RC] at g1 g2 g3 g4;rw[g1.1,g2.1,g3.1,g4.1];rfl
instance {P:Program}{T e:TypeId}{k:IntKind}[t:TyA P T 4 e 1][te:TyI P e k]{a b c d a' b' c' d':Int}:Eqv P T (.agg 4 [.lit (.int k a),.lit (.int k b),.lit (.int k c),.lit (.int k d)]) (.agg 4 [.lit (.int k a'),.lit (.int k b'),.lit (.int k c'),.lit (.int k d')]) 1 (decide ([a,b,c,d]=[a',b',c',d'])):=⟨fun {ok w va vb} d hd ha hb=>by
 rw[Sk ha,Sk hb];obtain⟨i,hi,hc⟩:=Rc t.sz;obtain⟨d,rfl⟩:∃ d',d=d'+1:=⟨d-1,om⟩;rw[run_equalIn_array w (d+1) _ _ t.out hi,hc,List.range_eq_range',Uf te.out w d 4 0 _ _ rfl rfl];rfl⟩
theorem a1n (a:Wd):decide ([((lm a.n 0:Nat):Int),(lm a.n 1:Nat),(lm a.n 2:Nat),(lm a.n 3:Nat)]=[0,0,0,0])=decide (a.n=0):=by
 rw[decide_eq_decide]
 constructor
 ·intro h;simp only[List.cons.injEq] at h;exact Oh a.lt wZ.lt (by rw[DV];omega) (by rw[DV];omega) (by rw[DV];omega) (by rw[DV];omega)
 intro h;rw[h,DV,DV,DV,DV];rfl
def DT (n m i:Nat):List AV:=(List.range 4).map λj=>u6 (lm (if j<i then n else m) j)
instance {n m i:Nat}:Siz (DT n m i) 1:=by unfold DT;infer_instance
theorem a5N (n m i:Nat):(DT n m i).length=4:=rfl
theorem a5O {n m i:Nat}(h:i<4):(DT n m i)[i]?=some (u6 (lm m i)):=by
 rcases i with _|_|_|_|i <;> first|rfl|omega
theorem a5M {n m i:Nat}(h:i<4):(DT n m i).set i (u6 (lm n i))=DT n m (i+1):=by
 rcases i with _|_|_|_|i <;> first|rfl|omega
def iJ (X Y:Nat->Nat)(i:Nat):List AV:=(List.range 4).map λj=>u6 (if j<i then X j else Y j)
instance {X Y:Nat->Nat}{i:Nat}:Siz (iJ X Y i) 1:=by unfold iJ;infer_instance
theorem ZM (X Y:Nat->Nat)(i:Nat):(iJ X Y i).length=4:=rfl
theorem Pn (X Y:Nat->Nat):iJ X Y 0=[u6 (Y 0),u6 (Y 1),u6 (Y 2),u6 (Y 3)]:=rfl
theorem ZN (X Y:Nat->Nat):iJ X Y 4=[u6 (X 0),u6 (X 1),u6 (X 2),u6 (X 3)]:=rfl
theorem Pm {X Y:Nat->Nat}{i:Nat}(h:i<4):(iJ X Y i)[i]?=some (u6 (Y i)):=by
 rcases i with _|_|_|_|i <;> first|rfl|omega
theorem a5S {X Y:Nat->Nat}{i:Nat}(h:i<4):(iJ X Y i).set i (u6 (X i))=iJ X Y (i+1):=by
 rcases i with _|_|_|_|i <;> first|rfl|omega
theorem a5Q {X Y:Nat->Nat}(h:∀ i,X i<18446744073709551616):∃ n:Nat,n<115792089237316195423570985008687907853269984665640564039457584007913129639936/\AV.agg 4 (iJ X Y 4)=aD n:=by
 obtain⟨h1,h2,h3,h4,h5⟩:=a1j (h 0) (h 1) (h 2) (h 3);refine⟨_,h1,?_⟩;rw[ZN];unfold aD;rw[h2,h3,h4,h5]
theorem PZ {n i:Nat}(h:i<4):[u6 (lm n 0),u6 (lm n 1),u6 (lm n 2),u6 (lm n 3)][i]?=some (u6 (lm n i)):=by
 rcases i with _|_|_|_|i <;> first|rfl|omega
def GV (a b:Nat):Nat->Nat
 | 0=>0
 | i+1=>(lm a i+lm b i+GV a b i) / 18446744073709551616
def BQ (a b:Nat):Nat->Nat
 | 0=>0
 | i+1=>vH (lm a i) (lm b i) (BQ a b i)
theorem b0k (a b:Wd):(∀ i,i<4->GV a.n b.n i<=1/\lm (a.n+b.n) i=(lm a.n i+lm b.n i+GV a.n b.n i)%18446744073709551616)/\GV a.n b.n 4<=1/\(GV a.n b.n 4=0↔lK (a.n+b.n)=true):=by
 obtain⟨c0,c1,c2,c3,rfl,rfl,rfl,rfl,h0,h1,h2,h3,h4,g0,g1,g2,g3⟩:=b3D a b;refine⟨λi hi=>?_,h3,by rw[lK,decide_eq_true_iff];exact h4⟩;rcases i with _|_|_|_|i
 ·exact⟨Nat.zero_le _,g0⟩
 ·exact⟨h0,g1⟩
 ·exact⟨h1,g2⟩
 ·exact⟨h2,g3⟩
 omega
theorem b1g (a b:Wd):(∀ i,i<4->BQ a.n b.n i<=1)/\BQ a.n b.n 4<=1/\(BQ a.n b.n 4=0↔b.n<=a.n)/\(b.n<=a.n->∀ i,i<4->lm (a.n-b.n) i=(lm a.n i+18446744073709551616-lm b.n i-BQ a.n b.n i)%18446744073709551616):=by
 obtain⟨c0,c1,c2,c3,rfl,rfl,rfl,rfl,h0,h1,h2,h3,h4,h5⟩:=a2m a b;refine⟨λi hi=>?_,h3,h4,λhle i hi=>?_⟩
 ·rcases i with _|_|_|_|i
  ·exact Nat.zero_le _
  ·exact h0
  ·exact h1
  ·exact h2
  omega
 obtain⟨g0,g1,g2,g3⟩:=h5 hle;rcases i with _|_|_|_|i
 ·exact g0
 ·exact g1
 ·exact g2
 ·exact g3
 omega
end Av
namespace Go.Proofs.Z
open Go Go.RowKit Tw Av
instance b9e {a:Wd}:Ans Tryz.prog GL 198 [G6 a] True (d9 (decide (a.n=0))):=⟨λ_=>by
 refine qE Tryz.func198 rfl Tryz.ntmps198 rfl (λ_ hs=>?_);repeat' (first|refine W ?_|refine op3 ?_|refine ob5 ?_|refine DI ?_|refine JR ?_|refine p9 (λ_=>?_)|intro _)
 refine x9 ?_;show d9 _=_;rw[a1n]⟩
instance b9g {n:Nat}{c:Nat}:Ans Tryz.prog GL 200 [aD n,u6 c] True (.tup [aD (if c=0 then n else 0),d9 (decide (c=0))]):=⟨λ_=>by
 refine qE Tryz.func200 rfl Tryz.ntmps200 rfl (λ_ hs=>?_);repeat' first|refine Vz ?_|intro
 refine G7 (λh=>?_) (λh=>?_)
 ·repeat' first|refine Vz ?_|intro
  refine x9 ?_;have h0:¬ c=0:=by omega
  rw[if_neg h0,dZ h0];rfl
 repeat' first|refine Vz ?_|intro
 refine x9 ?_;have h0:c=0:=by omega
 rw[if_pos h0,dT h0];rfl⟩
section
variable {N:Nat} {ops:Array Oper} {Q:Exit->Act->World->Prop} {rest:List Oper} {s:Av.Base} {e:Av.Env} {m:List Av.Piece} {d:Nat} {ty:TypeId} {pos:String} {af:Array Edge}
theorem b3s {x y c:Nat}{xs:List Operand}{ts:Array TypeId}(hc:c<=1)(h:AL Tryz.prog N ops Q s rest ((d,.tup [u6 ((x+y+c)%18446744073709551616),u6 ((x+y+c) / 18446744073709551616)])::e) m)(hx:evs e xs=some [u6 x,u6 y,u6 c]:=by exact rfl)(hd:Nat.blt d N=true:=by exact rfl):AL Tryz.prog N ops Q s (⟨some d,.call ⟨.value (.func 199),xs.toArray,ts⟩,ty,pos,af,none⟩::rest) e m:=by
 apply EP (en := (Extern.MathBitsCarry.rows.getD 0 ("", fun _ => pure undef)).2) (v := .tup [u6 ((x + y + c) % 18446744073709551616), u6 ((x + y + c) / 18446744073709551616)]) Tryz.func199; kernel_rfl; exact rfl; kernel_rfl; kernel_rfl; exact hx; exact rfl; exact hd
 ·rintro ok w cs _ ⟨u1,us,rfl,h1,u2,us2,rfl,h2,u3,us3,rfl,h3,rfl⟩;rw[RV0.lit h1,RV0.lit h2,RV0.lit h3];rcases (by omega:c=0\/c=1) with rfl|rfl
  ·exact⟨_,rfl,⟨_,rfl,_,_,rfl,RV0.of_lit rfl,_,_,rfl,RV0.of_lit rfl,rfl⟩⟩
  exact⟨_,rfl,⟨_,rfl,_,_,rfl,RV0.of_lit rfl,_,_,rfl,RV0.of_lit rfl,rfl⟩⟩
 exact h
theorem b1W {x y c:Nat}{xs:List Operand}{ts:Array TypeId}(hc:c<=1)(h:AL Tryz.prog N ops Q s rest ((d,.tup [u6 ((x+18446744073709551616-y-c)%18446744073709551616),u6 (vH x y c)])::e) m)(hx:evs e xs=some [u6 x,u6 y,u6 c]:=by exact rfl)(hd:Nat.blt d N=true:=by exact rfl):AL Tryz.prog N ops Q s (⟨some d,.call ⟨.value (.func 374),xs.toArray,ts⟩,ty,pos,af,none⟩::rest) e m:=by
 apply EP (en := (Extern.MathBitsCarry.rows.getD 1 ("", fun _ => pure undef)).2) (v := .tup [u6 ((x + 18446744073709551616 - y - c) % 18446744073709551616), u6 (vH x y c)]) Tryz.func374; kernel_rfl; exact rfl; kernel_rfl; kernel_rfl; exact hx; exact rfl; exact hd
 ·rintro ok w cs _ ⟨u1,us,rfl,h1,u2,us2,rfl,h2,u3,us3,rfl,h3,rfl⟩;rw[RV0.lit h1,RV0.lit h2,RV0.lit h3];rcases (by omega:c=0\/c=1) with rfl|rfl
  ·exact⟨_,rfl,⟨_,rfl,_,_,rfl,RV0.of_lit rfl,_,_,rfl,RV0.of_lit rfl,rfl⟩⟩
  exact⟨_,rfl,⟨_,rfl,_,_,rfl,RV0.of_lit rfl,_,_,rfl,RV0.of_lit rfl,rfl⟩⟩
 exact h
end
instance b9j {a b:Wd}:Ans Tryz.prog GL 144 [G6 a,G6 b] True (.tup [G6 (H9 (a.n+b.n)),d9 (lK (a.n+b.n))]):=⟨λ_=>by
 obtain⟨hcr,h4,h40⟩:=b0k a b;refine qE Tryz.func144 rfl Tryz.ntmps144 rfl (λ_ hs=>?_);repeat' first|refine Vz ?_|intro
 rename_i g2 g3 g4;refine jK (g:=g2) (v':=.agg 4 (DT (a.n+b.n) a.n 0)) (λok w cs h=>h) ?_;refine H7 (α:=Nat) (λi=>[(2,ptr g2),(3,ptr g3),(4,ptr g4),(6,u6 (GV a.n b.n i)),(8,int i)])
   (λi=>[.var g4 39 (aD 0),.var g3 39 (G6 b),.var g2 39 (.agg 4 (DT (a.n+b.n) a.n i))]) (λi=>i<=4) (λi=>4-i) 0 za slr (Nat.zero_le _) ?_
 intro i hi;repeat' first|refine Vz ?_|intro
 refine G7 (λhlt=>?_) (λhlt=>?_)
 ·have hl:i<4:=om
  obtain⟨c1,c2⟩:=hcr i hl;have hln:=a5N (a.n+b.n) a.n i;repeat' first|refine Vz ?_|intro
  apply zd [];exact zg;intro _ _;refine aX i ?_;exact j5 (A7 rfl rfl);apply zd [2];exact zg;intro _ _;refine vL (a5O hl) ?_;exact j5 (A7 rfl rfl);repeat' first|refine Vz ?_|intro
  apply zd [];exact zg;intro _ _;refine aX i ?_;exact j5 (A7 rfl rfl);apply zd [1];exact zg;intro _ _;refine vL (PZ hl) ?_;exact j5 (A7 rfl rfl);repeat' first|refine Vz ?_|intro
  apply zd [];exact zg;intro _ _;refine b3s c1 ?_;exact j5 (A7 rfl rfl);repeat' first|refine Vz ?_|intro
  apply zd [];exact zg;intro _ _;refine aX i ?_;exact j5 (A7 rfl rfl);apply iX [2];exact rfl;exact rfl;kernel_rfl;intro _ _;refine vJ (j:=i) (by rw[hln];exact hl) ?_;exact j5 (jJ rfl);exact rfl;exact rfl;rw[<- c2,a5M hl];repeat' first|refine Vz ?_|intro
  refine y7 (i+1) za ?_ hl om;exact A8
 obtain rfl:i=4:=by omega
 refine jK (g:=g2) (v':=aD (a.n+b.n)) (λok w cs h=>h) ?_;repeat' first|refine Vz ?_|intro
 refine x9 ?_;by_cases h0:GV a.n b.n 4=0
 ·have h1:=h40.1 h0;rw[if_pos h0,h1,dT h0];show AV.tup [aD _,_]=.tup [aD _,_];rw[mO (of_decide_eq_true h1)]
 have h1:lK (a.n+b.n)=false:=by
  cases h:lK (a.n+b.n)
  ·rfl
  exact absurd (h40.2 h) h0
 rw[if_neg h0,h1,dZ h0];show AV.tup [aD _,_]=.tup [aD _,_];rw[Gf (of_decide_eq_false h1)];rfl⟩
instance b9f {a b:Wd}:Ans Tryz.prog GL 352 [G6 a,G6 b] True (.tup [G6 (H9 (a.n-b.n)),d9 (decide (b.n<=a.n))]):=⟨λ_=>by
 obtain⟨hbo,h4,h40,hlm⟩:=b1g a b;refine qE Tryz.func352 rfl Tryz.ntmps352 rfl (λ_ hs=>?_);repeat' first|refine Vz ?_|intro
 rename_i g2 g3 g4;generalize hX:(λi=>(lm a.n i+18446744073709551616-lm b.n i-BQ a.n b.n i)%18446744073709551616)=X at *;refine jK (g:=g2) (v':=.agg 4 (iJ X (lm a.n) 0)) (λok w cs h=>by rw[Pn];exact h) ?_;refine H7 (α:=Nat) (λi=>[(2,ptr g2),(3,ptr g3),(4,ptr g4),(6,u6 (BQ a.n b.n i)),(8,int i)])
   (λi=>[.var g4 39 (aD 0),.var g3 39 (G6 b),.var g2 39 (.agg 4 (iJ X (lm a.n) i))]) (λi=>i<=4) (λi=>4-i) 0 za slr (Nat.zero_le _) ?_
 intro i hi;repeat' first|refine Vz ?_|intro
 refine G7 (λhlt=>?_) (λhlt=>?_)
 ·have hl:i<4:=om
  have c1:=hbo i hl;have hln:=ZM X (lm a.n) i;repeat' first|refine Vz ?_|intro
  apply zd [];exact zg;intro _ _;refine aX i ?_;exact j5 (A7 rfl rfl);apply zd [2];exact zg;intro _ _;refine vL (Pm hl) ?_;exact j5 (A7 rfl rfl);repeat' first|refine Vz ?_|intro
  apply zd [];exact zg;intro _ _;refine aX i ?_;exact j5 (A7 rfl rfl);apply zd [1];exact zg;intro _ _;refine vL (PZ hl) ?_;exact j5 (A7 rfl rfl);repeat' first|refine Vz ?_|intro
  apply zd [];exact zg;intro _ _;refine b1W c1 ?_;exact j5 (A7 rfl rfl);repeat' first|refine Vz ?_|intro
  apply zd [];exact zg;intro _ _;refine aX i ?_;exact j5 (A7 rfl rfl);apply iX [2];exact rfl;exact rfl;kernel_rfl;intro _ _;refine vJ (j:=i) (by rw[hln];exact hl) ?_;exact j5 (jJ rfl);exact rfl;exact rfl;rw[show (lm a.n i+18446744073709551616-lm b.n i-BQ a.n b.n i)%18446744073709551616=X i by rw[<- hX],a5S hl];repeat' first|refine Vz ?_|intro
  refine y7 (i+1) za ?_ hl om;exact A8
 obtain rfl:i=4:=by omega
 by_cases h0:BQ a.n b.n 4=0
 ·have h1:=h40.1 h0;have h2:=hlm h1;have e:AV.agg 4 (iJ X (lm a.n) 4)=aD (a.n-b.n):=by
   have hX':∀ i,i<4->X i=lm (a.n-b.n) i:=λi hi=>by rw[h2 i hi,<- hX]
   rw[ZN,hX' 0 om,hX' 1 om,hX' 2 om,hX' 3 om]
  rw[e];repeat' first|refine Vz ?_|intro
  refine x9 ?_;rw[if_pos h0,dT h0,dT h1];show AV.tup [aD _,_]=.tup [aD _,_];rw[mO (Nat.lt_of_le_of_lt (Nat.sub_le _ _) a.lt)]
 have h1:¬ b.n<=a.n:=λh=>h0 (h40.2 h);obtain⟨n,hn,e⟩:=a5Q (X:=X) (Y:=lm a.n) (by rw[<- hX];exact λi=>Nat.mod_lt _ dc);rw[e];repeat' first|refine Vz ?_|intro
 refine x9 ?_;rw[if_neg h0,dZ h0,dZ h1];show AV.tup [aD _,_]=.tup [aD _,_];rw[show a.n-b.n=0 by omega];rfl⟩
end Go.Proofs.Z
