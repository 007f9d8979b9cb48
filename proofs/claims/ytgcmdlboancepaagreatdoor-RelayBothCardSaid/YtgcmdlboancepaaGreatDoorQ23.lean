/- . -/
import Derived.Test.YtgcmdlboancepaaGreatDoorQ22
namespace Go.Proofs.Z
open Go Go.RowKit Tw Av Go.Proofs.Tryz
theorem TQ:prog.underlying 210=some (.pointer 212):=by kernel_rfl
theorem Dk:prog.underlying 382=some .unsafePointer:=by kernel_rfl
theorem tUS:(prog.info? 212).map (·.size)=some 2:=by kernel_rfl
theorem tUL:liesAt prog prog.depth 212 (2 / prog.cellsOf 212) 0 212 1=true:=by kernel_rfl
theorem tUP:prog.underlying 306=some (.pointer 5):=by kernel_rfl
theorem tUC:prog.cellsOf 5=1:=by kernel_rfl
def Bld (g:Nat)(l:Bs)(m:List Av.Piece):Prop:=∃ p:Option Addr,(p=none\/p=some ⟨g,0,none⟩)/\((l=[]/\m=[.var g 212 (.agg 2 [.lit (.pointer p),J2])]) \/
 ∃ g' c,l≠[]/\l.length<=c/\m=[.var g 212 (.agg 2 [.lit (.pointer p),.lit (.slice (some ⟨g',0,none⟩) l.length c)]),.buf g' 5 1 (lS l) c])
theorem Tm {g:Nat}{p:Option Addr}{v:AV}(hp:p=none\/p=some ⟨g,0,none⟩)(_:v.size=1):Av.Spec prog GL 243 [ptr g] [.var g 212 (.agg 2 [.lit (.pointer p),v])] λu m=>u=.tup []/\m=[.var g 212 (.agg 2 [ptr g,v])]:=by
 obtain⟨j,hj,hjs⟩:=Option.map_eq_some_iff.1 tUS;refine ze func243 ntmps243 λ_ hs=>?_;rcases hp with rfl|rfl
 ·repeat' first|refine O ?_|intro
  refine a8M (n:=2) TQ Dk hj (by rw[hjs];decide) dc ?_;apply DY (v:=ptr g) (en:=Extern.AbiNoEscape.same) func335;kernel_rfl;exact rfl;kernel_rfl;kernel_rfl;exact rfl;exact rfl;exact rfl
  focus
   intro ok w cs _ hv;obtain⟨u1,us,rfl,h1,rfl⟩:=hv;exact⟨u1,rfl,RV.of0 h1⟩
  refine a9H (n:=2) Dk TQ hj tUL ?_;repeat' first|refine O ?_|intro
  exact jS _ ⟨rfl,rfl⟩ slr
 repeat' first|refine O ?_|intro
 refine a8Z TQ hj ?_;repeat' first|refine O ?_|intro
 exact jS _ ⟨rfl,rfl⟩ slr
theorem Ul {g:Nat}{l a:Bs}{m:List Av.Piece}(hb:Bld g l m)(hl:l.length+a.length<=140737488355328):Av.Spec prog GL 134 [ptr g,str a] m λu m=>u=.tup [int a.length,.lit .nilIface]/\Bld g (l++a) m:=by
 obtain⟨p,hp,⟨rfl,rfl⟩|⟨g',c,h0,hc,rfl⟩⟩:=hb
 ·refine ze func134 ntmps134 λ_ hs=>?_;repeat' first|refine O ?_|intro
  refine H6 (args:=[ptr g]) [.var g 212 (.agg 2 [.lit (.pointer p),J2])] [] (by rw[hs];exact Tm hp rfl) (λu m1 hh=>?_) lpr;obtain⟨rfl,rfl⟩:=hh;rcases a with _|⟨x,a⟩
  focus
   repeat' first|refine O ?_|intro
   refine b0i ?_;repeat' first|refine O ?_|intro
   exact l9 _ ⟨rfl,_,.inr rfl,.inl ⟨rfl,rfl⟩⟩ slr
  focus
   have hl2:(x::a).length=a.length+1:=rfl;have hl1:([]:Bs).length=0:=rfl;repeat' first|refine O ?_|intro
   refine b0h (λg' c' hc'=>?_);repeat' first|refine O ?_|intro
   refine wB (λok w h=>h.perm (List.Perm.swap _ _ _)) ?_;refine l9 _ ⟨rfl,_,.inr rfl,.inr ⟨g',c',sm,hc',rfl⟩⟩ slr
 refine ze func134 ntmps134 λ_ hs=>?_;repeat' first|refine O ?_|intro
 refine H6 (args:=[ptr g]) [.var g 212 (.agg 2 [.lit (.pointer p),.lit (.slice (some ⟨g',0,none⟩) l.length c)])] [.buf g' 5 1 (lS l) c] (by rw[hs];exact Tm hp rfl) (λu m1 hh=>?_) lpr;obtain⟨rfl,rfl⟩:=hh;have hbl:=Uk l;repeat' first|refine O ?_|intro
 refine b0j (λg' c' hc'=>?_);repeat' first|refine O ?_|intro
 refine l9 _ ⟨rfl,_,.inr rfl,.inr ⟨g',c',by simp[h0],by simpa using hc',?_⟩⟩ slr;rw[lla,show lS (l++a)=lS l++lS a from List.map_append]
theorem Ab {g:Nat}{l:Bs}{m:List Av.Piece}(hb:Bld g l m)(hl:l.length<=140737488355328):Av.Spec prog GL 136 [ptr g] m λu _=>u=str l:=by
 obtain⟨p,hp,⟨rfl,rfl⟩|⟨g',c,h0,hc,rfl⟩⟩:=hb
 ·refine ze func136 ntmps136 λ_ hs=>?_;repeat' first|refine O ?_|intro
  apply zf [];exact zi;intro _ _;refine a8Q ?_;exact j3 (p9 rfl rfl);repeat' first|refine O ?_|intro
  apply zf [];exact zi;intro _ _;refine a8K ?_;exact j3 (p9 rfl rfl);repeat' first|refine O ?_|intro
  exact l9 [] rfl (List.nil_sublist _)
 refine ze func136 ntmps136 λ_ hs=>?_;have hc0:c≠0:=by
  have:=List.length_pos_iff.2 h0;omega
 repeat' first|refine O ?_|intro
 apply zf [];exact zi;intro _ _;refine a8R (c:=c) ?_ hc0;exact j3 (p9 rfl rfl);repeat' first|refine O ?_|intro
 apply jV [1];exact rfl;exact rfl;kernel_rfl
 focus
  intro _ _;refine a8L (l:=l) (c:=c) tUP tUC h0 ?_;exact j3 (p9 rfl rfl)
 focus
  exact rfl
 focus
  exact rfl
 repeat' first|refine O ?_|intro
 exact l9 [] rfl (List.nil_sublist _)
end Go.Proofs.Z

namespace Av
open Go Go.RowKit Tw
theorem a2c {n k:Nat}{pre post:List AV}{l:Bs}{j o:Nat}{c:UInt8}(hk:l.length=k)(hj:j<l.length)(ho:o=(pre.map AV.size).sum+j):rD (A7 c) 8 (.agg n (pre++.agg k (l.map A7)::post)) o=some (.agg n (pre++.agg k ((l.set j c).map A7)::post)):=by
 rw[List.map_set];exact Iq inferInstance (by simpa using hj) rfl rfl (by rw[List.getElem_map];rfl) (by simpa using hk) ho
end Av
namespace Go.Proofs.Z
open Go Go.RowKit Tw Av
def W9 (x:Bs):Hsh:=if h:x.length=32 then ⟨x,h⟩ else E9
theorem QC {x:Bs}(h:x.length=32):(W9 x).l=x:=by unfold W9;rw[dif_pos h]
instance c0A {x:Bs}:Ans Tryz.prog GL 274 [str x] True (.tup [hA (W9 x),int (if x.length=32 then 0 else 10)]):=⟨λ_=>by
 refine qE Tryz.func274 rfl Tryz.ntmps274 rfl (λ_ hs=>?_);repeat' first|refine Yz ?_|intro
 by_cases h:x.length=32
 ·rw[if_pos h];repeat' first|refine Yz ?_|intro
  rename_i g2 g4;refine RU (l:=zeros 32) (a:=x) rfl ?_;repeat' first|refine Yz ?_|intro
  refine j6 ?_;have e:pK (zeros 32) x=x:=by
   unfold pK;rw[List.take_of_length_le (by simp[zeros,h]),List.drop_of_length_le (by simp[zeros,h]),List.append_nil]
  rw[e,hA,QC h];rfl
 rw[if_neg h];repeat' first|refine Yz ?_|intro
 refine j6 ?_;unfold W9;rw[dif_neg h];rfl⟩
def O8 (c:Int)(l:List Bs):Bs:=r9 c (l.flatMap (r9 c))
theorem wG (c:Int)(s:Bs):(r9 c s).length<=16777219:=by simp[r9,uR,fC,List.length_take];omega
instance {c:Int}{l:List Bs}:LenLe (O8 c l) 16777219:=⟨wG _ _⟩
theorem QJ (c:Int):∀ l:List Bs,(l.flatMap (r9 c)).length<=l.length*16777219
 | []=>by simp
 | s::l=>by
  have h1:=wG c s;have h2:=QJ c l;rw[List.flatMap_cons,lla,List.length_cons,Nat.add_mul];omega
instance b6y {c:Int}{l:List Bs}{xs:List AV}{id:Option Value}[hx:Strs xs l]:Ans Tryz.prog GL 113 [.lit (.int .u8 c),.sl 1 xs id] ((0<=c/\c<256)/\l.length<=8000000) (str (O8 c l)):=⟨λhp=>by
 obtain⟨hc,hl⟩:=hp;have h:=hx.out;subst h;have hm:(l.map str).length=l.length:=llm _;refine qE Tryz.func113 rfl Tryz.ntmps113 rfl (λ_ hs=>?_);repeat' first|refine Yz ?_|intro
 rename_i g5;refine y9 (α:=Nat × {m:List Av.Piece // True}) (λq=>[(0,.lit (.int .u8 c)),(5,ptr g5),(8,.sl 1 (l.map str) id),(9,int l.length),(10,int q.1)]) (λq=>q.2.1) (λq=>q.1<=l.length/\Bld g5 ((l.take q.1).flatMap (r9 c)) q.2.1) (λq=>l.length-q.1) (0,⟨[.var g5 212 (.agg 2 [.lit (.pointer none),J2])],trivial⟩) ⟨rfl,rfl,rfl,by rw[<- hm];rfl,rfl,trivial⟩ slr ⟨Nat.zero_le _,none,.inl rfl,.inl ⟨rfl,rfl⟩⟩ ?_;rintro⟨i,m,_⟩ ⟨h1,h2⟩;dsimp only at h1 h2 ⊢;repeat' first|refine Yz ?_|intro
 refine w9 (λhlt=>?_) (λhlt=>?_)
 ·have hil:i<l.length:=om
  have hfl:=QJ c (l.take i);have hfl2:=wG c l[i];have hti:(l.take i).length<=l.length:=by simp;omega
  repeat' first|refine Yz ?_|intro
  refine H6 (args:=[ptr g5,str (r9 c l[i])]) m [] (by rw[hs];exact Ul h2 om) (λu m1 hh=>?_) (by rw[List.append_nil]);obtain⟨rfl,hb⟩:=hh;rw[List.append_nil];repeat' first|refine Yz ?_|intro
  refine o9 (i+1,⟨m1,trivial⟩) zc slr ⟨hil,?_⟩ (by dsimp only;omega);rw[List.take_succ_eq_append_getElem hil,List.flatMap_append];simpa using hb
 obtain rfl:i=l.length:=by omega
 rw[List.take_length] at h2;have hfl:=QJ c l;repeat' first|refine Yz ?_|intro
 refine H6 (args:=[ptr g5]) m [] (by rw[hs];exact Ab h2 om) (λu m1 hh=>?_) (by rw[List.append_nil]);subst hh;exact Z5⟩
instance b8e {c:Int}{l:List Bs}{xs:List AV}{id:Option Value}[hx:Strs xs l]:Ans Tryz.prog GL 190 [.lit (.int .u8 c),.sl 1 xs id] (l.length<=8000000) (str (O8 c l)):=⟨λhl=>by
 have h:=hx.out;subst h;have hm:(l.map str).length=l.length:=llm _;refine qE Tryz.func190 rfl Tryz.ntmps190 rfl (λ_ hs=>?_);repeat' first|refine Yz ?_|intro
 refine y9 (α:=Nat) (λi=>[(0,.lit (.int .u8 c)),(1,.sl 1 (l.map str) id),(5,str ((l.take i).flatMap (r9 c))),(6,int i)]) (λ_=>[]) (λi=>i<=l.length) (λi=>l.length-i) 0 zc slr (Nat.zero_le _) ?_;intro i hi;repeat' first|refine Yz ?_|intro
 refine w9 (λhlt=>?_) (λhlt=>?_)
 ·have hil:i<l.length:=om
  have hfl:=QJ c (l.take i);have hfl2:=wG c l[i];have hti:(l.take i).length<=l.length:=by simp;omega
  repeat' first|refine Yz ?_|intro
  refine o9 (i+1) ⟨rfl,rfl,?_,rfl,trivial⟩ slr hil om;rw[List.take_succ_eq_append_getElem hil,List.flatMap_append];simp;rfl
 obtain rfl:i=l.length:=by omega
 rw[List.take_length];exact Z5⟩
def iH (x:Bs)(i:Nat):Bs:=x.take i++zeros (32-i)
theorem PY {x:Bs}{i:Nat}(hx:x.length=32)(hi:i<=32):(iH x i).length=32:=by simp[iH,zeros,hx];omega
theorem XC {x:Bs}{i:Nat}(hx:x.length=32)(hi:i<32):(iH x i).set i (x[i]'(by omega))=iH x (i+1):=by
 unfold iH;have h1:(x.take i).length=i:=by simp[hx];omega
 have h2:∀ (a b:List UInt8) (j:Nat) (c:UInt8),a.length=j->(a++b).set j c=a++b.set 0 c:=λa b j c h=>by
  subst h;simp
 rw[h2 _ _ _ _ h1,List.take_succ_eq_append_getElem om,laa];congr 1
 rw[show 32-i=(32-(i+1))+1 by omega];rfl
theorem XD {x:Bs}(hx:x.length=32):iH x 32=x:=by
 unfold iH;rw[List.take_of_length_le om,Nat.sub_self];simp[zeros]
end Go.Proofs.Z

namespace Go.Proofs.Z
open Go Go.RowKit Tw Av
section
variable {r s:Bs}{c most:Int}
theorem uT (h:s.length<=16777215):r9 c s=UInt8.ofNat c.toNat::UInt8.ofNat (s.length / 65536)::UInt8.ofNat (s.length / 256)::UInt8.ofNat s.length::s:=by
 unfold r9 uR;rw[List.take_of_length_le (by simp[fC];omega)]
theorem a3Q {n:Nat}(h:n<=16777215):eO (UInt8.ofNat (n / 65536)) (UInt8.ofNat (n / 256)) (UInt8.ofNat n)=n:=by
 unfold eO;rw[UInt8.toNat_ofNat',UInt8.toNat_ofNat',UInt8.toNat_ofNat'];omega
theorem ZE (h0:0<=c)(h1:c<256)(h2:(s.length:Int)<=most)(h3:s.length<=16777215):bE c most false (r9 c s++r)=some (s,r):=by
 rw[uT h3];simp only[List.cons_append];rw[bE,a3Q h3,if_pos]
 ·simp
 refine⟨rfl,?_,h2,sm⟩;rw[UInt8.toNat_ofNat'];omega
theorem vF (h0:0<=c)(h1:c<256)(h2:(s.length:Int)<=most)(h3:s.length<=16777215):G9 c most (r9 c s++r) false=s/\o8 c most (r9 c s++r) false=r/\F4 c most (r9 c s++r) false=false:=by
 have h:=ZE (r:=r) h0 h1 h2 h3;unfold G9 o8 F4;rw[h];exact⟨rfl,rfl,rfl⟩
theorem CY:∀ f n,(aD f n).length<=f
 | 0,_=>Nat.le_refl _
 | f+1,n=>by
  rw[aD];split
  ·simp
  have:=CY f (n / 256);simp;omega
theorem Rt:∀ f n,n<256 ^ f->numOf (aD f n)=n
 | 0,n,h=>by simp at h;subst h;rfl
 | f+1,n,h=>by
  rw[aD];split
  ·rename_i h0;subst h0;rfl
  rw[KD,Rt f (n / 256) (by rw[Nat.pow_succ] at h;omega),UInt8.toNat_ofNat'];omega
theorem tX {n:Int}(h0:0<=c)(h1:c<256)(h2:0<=n)(h3:n<=most)(h4:most<=9223372036854775807):L9 c most (D7 c n++r) false=n/\o8 c 8 (D7 c n++r) false=r/\N9 c most (D7 c n++r) false=false:=by
 have hd:(digits n.toNat).length<=8:=CY 8 _;have hn:numOf (digits n.toNat)=n.toNat:=Rt 8 _ (by show n.toNat<18446744073709551616;omega);have hl:mQ (digits n.toNat)=false:=YX 8 _ (by show n.toNat<18446744073709551616;omega);have h:=vF (c:=c) (most:=8) (s:=digits n.toNat) (r:=r) h0 h1 om om;have e:D7 c n=r9 c (digits n.toNat):=rfl;have hN:uZ c (D7 c n++r) false=n.toNat:=by
  rw[JK,e,h.1,hl,hn];rfl
 have hB:qO c (D7 c n++r) false=false:=by
  unfold qO;rw[e,h.1,h.2.2,hl];rfl
 refine⟨?_,by rw[e];exact h.2.1,?_⟩
 ·rw[L9,hN,if_neg om];omega
 rw[N9,hN,hB,dZ om];rfl
theorem Us {c most:Int}(h0:0<=c)(h1:c<256):∀ (l:List Bs) (f:Nat),l.length<f->(∀ s∈l,(s.length:Int)<=most/\s.length<=16777215)->jA c most f (l.flatMap (r9 c)) false=(l,false)
 | [],f,hf,_=>by
  rcases f with _|f
  ·omega
  exact Af
 | s::l,f,hf,hl=>by
  rcases f with _|f
  ·omega
  rw[List.flatMap_cons];have h:=vF (r:=l.flatMap (r9 c)) h0 h1 (hl s sm).1 (hl s sm).2;have ih:=Us h0 h1 l f (by simp at hf;omega) (λt ht=>hl t (by simp[ht]));have hne:r9 c s++l.flatMap (r9 c)≠[]:=by rw[uT (hl s sm).2];simp
  rw[jA,if_neg (by simp[hne]),h.1,h.2.1,h.2.2,ih]
theorem Qi {c:Int}:∀ l:List Bs,l.length<=(l.flatMap (r9 c)).length
 | []=>by simp
 | s::l=>by
  have:=Qi (c:=c) l;have h2:4<=(r9 c s).length:=by simp[r9,uR]
  rw[List.flatMap_cons,lla,List.length_cons];omega
theorem OH {many:Int}{l:List Bs}(h0:0<=c)(h1:c<256)(h2:(l.length:Int)<=many)(h3:∀ s∈l,(s.length:Int)<=most/\s.length<=16777215)(h4:(l.flatMap (r9 c)).length<=16777215):jJ c many most (O8 c l++r) false=l/\o8 c 16777215 (O8 c l++r) false=r/\eF c many most (O8 c l++r) false=false:=by
 have h:=vF (c:=c) (most:=16777215) (s:=l.flatMap (r9 c)) (r:=r) h0 h1 om h4;have e:O8 c l=r9 c (l.flatMap (r9 c)):=rfl;have hX:DW c most (l.flatMap (r9 c))=(l,false):=Us h0 h1 l _ (by have:=Qi (c:=c) l;omega) h3;have hb:yL false (l,false) many=false:=by
  unfold yL;rw[dZ (by show ¬ many<(l.length:Int);omega)];rfl
 refine⟨?_,by rw[e];exact h.2.1,?_⟩
 ·unfold jJ;rw[e,h.1,h.2.2,hX];unfold BZ;rw[hb];rfl
 unfold eF;rw[e,h.1,h.2.2,hX,hb]
theorem GH {c:Int}{n:Nat}:∀ {l:List Bs},(∀ s∈l,s.length<=n)->n<=16777215->(l.flatMap (r9 c)).length<=l.length*(n+4)
 | [],_,_=>by simp
 | s::l,h,hn=>by
  have h1:=GH (c:=c) (l:=l) (λt ht=>h t (by simp[ht])) hn;have h2:=h s sm;rw[List.flatMap_cons,lla,List.length_cons,Nat.add_mul,uT om];simp only[List.length_cons];omega
end

section
variable {a b c k q s v:Bs}{d:List Ent}{x:Pkt}
def Y9 (k:Bs)(n:Nat)(d:List Ent):List Ent × Int:=if n=0 then (mZ d k,0) else P7 d k (bT n)
def WT (d:List Ent)(a c:Bs)(n:Wd):List Ent × Int:=if P9 a=false\/aC c=false\/n.n=0 then ([],1)
 else if Z6 ((H5 d (Q8 c)).n+n.n)=false\/Z6 ((H5 d (I4 a c)).n+n.n)=false then ([],17)
 else Y7 (Y9 (Q8 c) ((H5 d (Q8 c)).n+n.n)) (Y9 (I4 a c) ((H5 d (I4 a c)).n+n.n)) d
def Aa (d:List Ent)(a c:Bs)(n:Wd):List Ent × Int:=if P9 a=false\/aC c=false\/n.n=0 then ([],1)
 else if (H5 d (Q8 c)).n<n.n\/(H5 d (I4 a c)).n<n.n then ([],16)
 else Y7 (Y9 (Q8 c) ((H5 d (Q8 c)).n-n.n)) (Y9 (I4 a c) ((H5 d (I4 a c)).n-n.n)) d
def WM (d:List Ent)(a b c:Bs)(n:Wd):List Ent × Int:=if P9 a=false\/P9 b=false\/aC c=false\/n.n=0 then ([],1)
 else if (H5 d (I4 a c)).n<n.n then ([],16)
 else if a=b then (d,0)
 else if Z6 ((H5 d (I4 b c)).n+n.n)=false then ([],17)
 else Y7 (Y9 (I4 a c) ((H5 d (I4 a c)).n-n.n)) (Y9 (I4 b c) ((H5 d (I4 b c)).n+n.n)) d
theorem TK {c:Int}(h:s.length<=16777215):(r9 c s).length=s.length+4:=by
 rw[uT h];simp
theorem Zm {c:Int}{r t:Bs}(h0:0<=c)(h1:c<256)(ha:a.length<=1000)(hb:b.length<=1000)(h:r9 c a++r=r9 c b++t):a=b/\r=t:=by
 have e1:=ZE (c:=c) (most:=1000) (s:=a) (r:=r) h0 h1 om om;have e2:=ZE (c:=c) (most:=1000) (s:=b) (r:=t) h0 h1 om om;rw[h,e2] at e1;injection e1 with e1
 injection e1 with e1 e3
 exact⟨e1.symm,e3.symm⟩
theorem WI (h:P9 s=true):1<=s.length/\s.length<=64:=of_decide_eq_true h
theorem Rm (h:aC s=true):1<=s.length/\s.length<=200:=of_decide_eq_true h
theorem a8t (ha:P9 a=true)(hb:P9 b=true)(h:a≠b):I4 a c≠I4 b c:=λe=>by
 have:=WI ha;have:=WI hb;unfold I4 at e;rw[laa,laa] at e;exact h (Zm dc dc om om (List.append_cancel_left e)).1
theorem RD {t:Bs}:I4 a c≠Q8 t:=λe=>by
 unfold I4 Q8 at e;rw[laa] at e;injection e with e
 cases e
theorem Vi (ha:P9 a=true)(hc:aC c=true):(I4 a c).length<=400:=by
 have:=WI ha;have:=Rm hc;unfold I4;rw[lla,lla,TK om,TK om];simp;omega
theorem Zi (hc:aC c=true):(Q8 c).length<=400:=by
 have:=Rm hc;unfold Q8;rw[lla,TK om];simp;omega
theorem a5d (h:Srt d)(hq:q≠k):H5 (jK d k v) q=H5 d q:=by
 unfold H5;rw[Cj h,if_neg hq]
theorem a5f (h:Srt d)(hq:q≠k):H5 (mZ d k) q=H5 d q:=by
 unfold H5;rw[Yq h,if_neg hq]
theorem a2g (h:Srt d)(hq:q≠k)(he:(P7 d k v).2=0):H5 (P7 d k v).1 q=H5 d q:=by
 unfold P7 at he ⊢;split
 ·exact a5d h hq
 rename_i h1;rw[if_neg h1] at he;exact absurd he h1
theorem JG {n:Nat}(h:Srt d)(hq:q≠k)(he:(Y9 k n d).2=0):H5 (Y9 k n d).1 q=H5 d q:=by
 unfold Y9 at he ⊢;split
 ·exact a5f h hq
 rename_i h1;rw[if_neg h1] at he;exact a2g h hq he
theorem a5e (h:Srt d)(hp:0<(H5 d k).n):K5 d k=true:=by
 rw[KN h];unfold H5 N8 at hp;cases e:gO d k with
 | none=>
  rw[e] at hp;exact absurd hp dc
 | some v=>rfl
theorem WZ {n:Wd}(h:DOk d)(hk:k.length<=400)(hn:n.n≠0)(hle:n.n<=(H5 d k).n):iG k n d=Y9 k ((H5 d k).n-n.n) d/\(iG k n d).2=0:=by
 have hb:K5 d k=true:=a5e h.s om;have he:∀ v:Bs,v.length<=4000->M6 d k v=0:=λv hv=>a2j.2 ⟨hk,hv,.inl hb⟩;unfold iG Y9;rw[if_neg om];by_cases h1:(H5 d k).n=n.n
 ·rw[if_pos h1,if_pos om];exact⟨rfl,rfl⟩
 rw[if_neg h1,if_neg om];refine⟨rfl,?_⟩;rw[Iw];exact he _ (by rw[DT];omega)
theorem PK {n:Wd}(hn:n.n≠0):iU k n d=if Z6 ((H5 d k).n+n.n)=true then Y9 k ((H5 d k).n+n.n) d else ([],17):=by
 unfold iU Y9;split
 ·rw[if_neg om]
 rfl
theorem a3l {n:Wd}:(iU k n d).2≠16:=by
 unfold iU;split
 ·rw[Iw];unfold M6;split
  ·decide
  split
  ·decide
  split <;> decide
 decide
theorem a3y (h:DOk d)(a c:Bs)(n:Wd):aJ d a c n=WT d a c n:=by
 unfold aJ WT;split
 ·rfl
 rename_i h1;simp only[not_or,Bool.not_eq_false] at h1;obtain⟨h2,h3,h4⟩:=h1;by_cases h5:Z6 ((H5 d (I4 a c)).n+n.n)=false
 ·rw[if_pos h5,if_pos (.inr h5)]
 rw[if_neg h5];have h5':Z6 ((H5 d (I4 a c)).n+n.n)=true:=by simpa using h5
 unfold Y7;by_cases h6:Z6 ((H5 d (Q8 c)).n+n.n)=false
 ·have m1:iU (Q8 c) n d=([],17):=by rw[PK h4,if_neg (by simp[h6])]
  have n0:¬ (([],17):List Ent × Int).2=0:=dc
  rw[m1,if_neg n0,if_pos (.inl h6)]
 have h6':Z6 ((H5 d (Q8 c)).n+n.n)=true:=by simpa using h6
 have m1:iU (Q8 c) n d=Y9 (Q8 c) ((H5 d (Q8 c)).n+n.n) d:=by rw[PK h4,if_pos h6']
 have hc:¬ (Z6 ((H5 d (Q8 c)).n+n.n)=false\/Z6 ((H5 d (I4 a c)).n+n.n)=false):=by rw[h5',h6'];decide
 rw[m1,if_neg hc];by_cases h7:(Y9 (Q8 c) ((H5 d (Q8 c)).n+n.n) d).2=0
 ·rw[if_pos h7,if_pos h7,PK h4,JG h.s RD h7,if_pos h5']
 rw[if_neg h7,if_neg h7]
theorem a8e (h:DOk d)(a c:Bs)(n:Wd):rR d a c n=Aa d a c n:=by
 unfold rR Aa;split
 ·rfl
 rename_i h1;simp only[not_or,Bool.not_eq_false] at h1;obtain⟨h2,h3,h4⟩:=h1;unfold Y7;by_cases h5:(H5 d (Q8 c)).n<n.n
 ·have n0:¬ (([],16):List Ent × Int).2=0:=dc
  have:iG (Q8 c) n d=([],16):=by rw[iG,if_pos h5]
  rw[this,if_neg n0,if_pos (.inl h5)]
 obtain⟨e1,e2⟩:=WZ h (Zi h3) h4 (by omega:n.n<=(H5 d (Q8 c)).n);have e3:=e2;rw[e1] at e3;rw[if_pos e2,e1];have hd:DOk (Y9 (Q8 c) ((H5 d (Q8 c)).n-n.n) d).1:=by
  unfold Y9 at e3 ⊢;split
  ·exact h.drp _
  rename_i h8;rw[if_neg h8] at e3;exact VP h e3
 by_cases h6:(H5 d (I4 a c)).n<n.n
 ·rw[if_pos (show (H5 d (Q8 c)).n<n.n\/(H5 d (I4 a c)).n<n.n from .inr h6),iG,JG h.s RD e3,if_pos h6]
 rw[if_neg (show ¬ ((H5 d (Q8 c)).n<n.n\/(H5 d (I4 a c)).n<n.n) by omega),if_pos e3,(WZ hd (Vi h2 h3) h4 (by rw[JG h.s RD e3];omega)).1,JG h.s RD e3]
theorem a3i (h:DOk d)(a b c:Bs)(n:Wd):bC d a b c n=WM d a b c n:=by
 unfold bC WM;split
 ·rfl
 rename_i h1;simp only[not_or,Bool.not_eq_false] at h1;obtain⟨h2,h2',h3,h4⟩:=h1;by_cases h5:(H5 d (I4 a c)).n<n.n
 ·have e1:Y7 (iG (I4 a c) n) (iU (I4 b c) n) d=([],16):=by
   unfold Y7;have:iG (I4 a c) n d=([],16):=by rw[iG,if_pos h5]
   rw[this,if_neg (show ¬ (([],16):List Ent × Int).2=0 by decide)]
  rw[e1,if_neg (show ¬ (a=b/\(([],16):List Ent × Int).2≠16) from λhh=>hh.2 rfl),if_pos h5]
 obtain⟨e1,e2⟩:=WZ h (Vi h2 h3) h4 (by omega:n.n<=(H5 d (I4 a c)).n);have e3:=e2;rw[e1] at e3;have e4:Y7 (iG (I4 a c) n) (iU (I4 b c) n) d=iU (I4 b c) n (Y9 (I4 a c) ((H5 d (I4 a c)).n-n.n) d).1:=by
  unfold Y7;rw[if_pos e2,e1]
 rw[if_neg h5,e4];by_cases h6:a=b
 ·rw[if_pos ⟨h6,a3l⟩,if_pos h6]
 rw[if_neg (λhh=>h6 hh.1),if_neg h6,PK h4,JG h.s (a8t h2' h2 (λe=>h6 e.symm)) e3];unfold Y7;rw[if_pos e3];by_cases h7:Z6 ((H5 d (I4 b c)).n+n.n)=true
 ·rw[if_pos h7,if_neg (by simp[h7])]
 rw[if_neg h7,if_pos (by simpa using h7)]
theorem xQ (h:DOk d):DOk (P7 d k v).1:=by
 unfold P7;split
 ·rename_i h1;exact h.put h1
 exact .nil
theorem PL {n:Wd}(h:DOk d):DOk (iU k n d).1:=by
 unfold iU;split
 ·exact xQ h
 exact .nil
theorem KJ {n:Wd}(h:DOk d):DOk (iG k n d).1:=by
 unfold iG;split
 ·exact .nil
 split
 ·exact h.drp _
 exact xQ h
theorem IX {a b:List Ent->List Ent × Int}(h:DOk d)(ha:∀ d,DOk d->DOk (a d).1)(hb:∀ d,DOk d->DOk (b d).1):DOk (Y7 a b d).1:=by
 unfold Y7;split
 ·exact hb _ (ha _ h)
 exact ha _ h
theorem xW {n:Wd}(h:DOk d):DOk (aJ d a c n).1:=by
 unfold aJ;split
 ·exact .nil
 split
 ·exact .nil
 exact IX h (λ_ h=>PL h) (λ_ h=>PL h)
theorem a8f {n:Wd}(h:DOk d):DOk (rR d a c n).1:=by
 unfold rR;split
 ·exact .nil
 exact IX h (λ_ h=>KJ h) (λ_ h=>KJ h)
theorem PI {n:Wd}(h:DOk d):DOk (bC d a b c n).1:=by
 unfold bC;split
 ·exact .nil
 split
 ·exact h
 exact IX h (λ_ h=>KJ h) (λ_ h=>PL h)
theorem UF (h:DOk d):DOk (eU d x).1:=by
 unfold eU;split
 ·exact .nil
 split
 ·exact a8f h
 exact PI h
theorem VG (h:DOk d):DOk (aI d x).1:=by
 unfold aI;split
 ·exact .nil
 split
 ·exact PI h
 exact xW h
theorem Am (h:DOk d):DOk (jZ d x).1:=by
 unfold jZ;split
 ·exact .nil
 split
 ·exact xW h
 exact PI h
end
end Go.Proofs.Z

namespace Go.Proofs.Z
open Go Go.RowKit Tw Av Go.Proofs.Tryz
section
def fill {α:Type}(f:α->Value)(z:Value)(l:List α)(i:Nat):List AV:=(l.take i).map (λx=>.lit (f x))++List.replicate (l.length-i) (.lit z)
instance {α:Type}{f:α->Value}{z:Value}{l:List α}{i:Nat}:Siz (fill f z l i) 1:=by unfold fill;infer_instance
theorem Qp {α:Type}{f:α->Value}{z:Value}{l:List α}{i:Nat}(h:i<=l.length):(fill f z l i).length=l.length:=by simp[fill];omega
theorem Qo {α:Type}{f:α->Value}{z:Value}{l:List α}{i:Nat}(h:i<l.length):(fill f z l i).set i (.lit (f l[i]))=fill f z l (i+1):=by
 have hl:((l.take i).map λx=>AV.lit (f x)).length=i:=by simp;omega
 unfold fill;rw[List.set_append,if_neg om,hl,Nat.sub_self,show l.length-i=(l.length-(i+1))+1 by omega,List.replicate_succ,List.set_cons_zero,List.take_succ_eq_append_getElem h,List.map_append,laa];rfl
theorem Qq {α:Type}{f:α->Value}{z:Value}{l:List α}:fill f z l l.length=l.map λx=>.lit (f x):=by simp[fill]
class U8s (xs:List AV)(l:outParam Bs):Prop where
 out:xs=l.map A7
instance {l:Bs}:U8s (l.map A7) l:=⟨rfl⟩
instance {xs:List AV}{l:Bs}{i:Nat}[h:U8s xs l]:U8s (xs.take i) (l.take i):=⟨by rw[h.out,List.map_take]⟩
instance {xs:List AV}{l:Bs}{i:Nat}[h:U8s xs l]:U8s (xs.drop i) (l.drop i):=⟨by rw[h.out,List.map_drop]⟩
instance b7T {x:H8}{xs:List AV}{blk:Bs}{id:Option Value}[h:U8s xs blk]:Ans prog GL 404 [wJ,iW x,.sl 1 xs id] (blk.length=64) (iW (yH x blk)):=by
 rw[h.out]
 infer_instance
def oP (n:Nat):Nat:=(119-n%64)%64
theorem a2x (s:Bs):(pad s).length=s.length+1+oP s.length+8:=by
 have:(iM (8*s.length)).length=8:=rfl;simp[pad,zeros,this,oP];omega
theorem Cw (q:Nat):Value.int .u8 (IntKind.u8.wrap (q:Int))=y5 (UInt8.ofNat q):=by
 unfold y5;rw[IntKind.wrap_u8];congr 1
attribute [local irreducible] Av.Obl
set_option maxHeartbeats 4000000 in
instance a5F {s:Bs}:Ans prog GL 347 [wJ,str s] (s.length<=35184372088832) (hA (bH s)):=⟨λhl=>by
 refine ze func347 ntmps347 λ_ hs=>?_;repeat' (first|refine eP ?_|refine RN ?_|refine Bh (λ_=>?_)|refine RX (λ_=>?_)|intro _|fail)
 rename_i g2 g4;refine a9X (λv=>?_);repeat' first|refine Wz ?_|intro
 refine H7 (λv'=>?_);repeat' first|refine Wz ?_|intro
 have hZ:oP s.length<64:=by unfold oP;omega
 have hs0:s.map (λc=>AV.lit (y5 c))++[.lit (.int .u8 128)]=(s++128::zeros 0).map A7:=by
  rw[List.map_append];rfl
 refine Y4 5 (v':=.sl 1 ((s++128::zeros 0).map A7) (some v')) (Imp.of_eq (by rw[<- hs0])) ?_;refine y9 (α:=Nat × Value) (λq=>[(1,str s),(2,ptr g2),(4,ptr g4),(5,.sl 1 ((s++128::zeros q.1).map A7) (some q.2))]) (λq=>[.tail 5 1 q.2,.var g4 40 (hA E9),.var g2 395 wJ])
  (λq=>q.1<=oP s.length) (λq=>oP s.length-q.1) (0,v') zc slr (Nat.zero_le _) ?_
 rintro⟨z,v''⟩ hz;dsimp only at hz ⊢;have hlz:((s++128::zeros z).map A7).length=s.length+1+z:=by simp[zeros];omega
 repeat' first|refine Wz ?_|intro
 refine w9 (λhne=>?_) (λhne=>?_)
 ·repeat' first|refine Wz ?_|intro
  rw[hlz] at hne;refine H7 (hb:=by rw[hlz];simp;omega) (hl:=by rw[hlz];simp[maxLen];omega) (λv3=>?_);repeat' first|refine Wz ?_|intro
  have e:(s++128::zeros z).map A7++[.lit (.int .u8 0)]=(s++128::zeros (z+1)).map A7:=by
   simp[zeros,List.replicate_succ',y5]
  rw[e];exact o9 (z+1,v3) zc slr (by simp only;unfold oP at *;omega) (by simp only;unfold oP at *;omega)
 rw[hlz] at hne;obtain rfl:z=oP s.length:=by unfold oP at *;omega
 repeat' first|refine Wz ?_|intro
 refine EB ?_;have hw:IntKind.u64.wrap ((s.length:Int)*8)=((8*s.length:Nat):Int):=by rw[IntKind.wrap_u64];omega
 rw[hw];repeat' first|refine Wz ?_|intro
 generalize hB:s++128::zeros (oP s.length)=B at *;have hlB:B.length=s.length+1+oP s.length:=by simpa using hlz
 refine y9 (α:=Nat × Value) (λq=>[(2,ptr g2),(4,ptr g4),(5,.sl 1 ((B++(iM (8*s.length)).take q.1).map A7) (some q.2)),(6,.lit (.int .u64 ((8*s.length:Nat):Int))),(7,int (7-(q.1:Int)))]) (λq=>[.tail 5 1 q.2,.var g4 40 (hA E9),.var g2 395 wJ])
  (λq=>q.1<=8) (λq=>8-q.1) (0,v'') ⟨rfl,rfl,by simp;rfl,rfl,rfl,trivial⟩ slr (Nat.zero_le _) ?_
 rintro⟨i,v4⟩ hi;dsimp only at hi ⊢;have hl8:(iM (8*s.length)).length=8:=rfl;have hlq:((B++(iM (8*s.length)).take i).map A7).length=B.length+i:=by simp[hl8];omega
 repeat' first|refine Wz ?_|intro
 refine w9 (λhge=>?_) (λhge=>?_)
 ·repeat' first|refine Wz ?_|intro
  refine DX (k:=.u64) (n:=8*(7-i)) (hb:=by show _=((8*(7-i):Nat):Int);omega) (hn:=Nat.ble_eq_true_of_le (show 8*(7-i)<=64 by omega)) ?_;repeat' first|refine Wz ?_|intro
  rw[<- Int.natCast_ediv,Cw];refine H7 (hb:=by rw[hlq];simp;omega) (hl:=by rw[hlq];simp[maxLen];omega) (λv5=>?_);repeat' first|refine Wz ?_|intro
  have hg:=Vh (8*s.length) (7-i) om;rw[show 7-(7-i)=i by omega] at hg;have hi8:i<(iM (8*s.length)).length:=by omega
  have e:(B++(iM (8*s.length)).take i).map A7++[.lit (y5 (UInt8.ofNat (8*s.length / 2 ^ (8*(7-i)))))]=(B++(iM (8*s.length)).take (i+1)).map A7:=by
   rw[List.getElem?_eq_getElem hi8] at hg;injection hg with hg
   rw[<- hg,List.take_succ_eq_append_getElem hi8,<- laa,List.map_append (l₁:=B++List.take i _)];rfl
  rw[e];have e7:(7:Int)-(i:Int)-1=7-((i+1:Nat):Int):=by omega
  rw[e7];exact o9 (i+1,v5) zc slr (by simp only;omega) (by simp only;omega)
 obtain rfl:i=8:=by omega
 rw[List.take_of_length_le om] at hlq ⊢;have hP:B++iM (8*s.length)=pad s:=by rw[<- hB,pad,laa];rfl
 rw[hP] at hlq ⊢;have hlP:(pad s).length=s.length+1+oP s.length+8:=a2x s;have hm64:(pad s).length%64=0:=by rw[hlP];unfold oP;omega
 generalize hPP:pad s=P at *;repeat' first|refine Wz ?_|intro
 rename_i g8;refine y9 (α:=Nat) (λi=>[(2,ptr g2),(4,ptr g4),(5,.sl 1 (P.map A7) (some v4)),(8,ptr g8),(9,int i)]) (λi=>[.var g8 438 (.agg 8 (fill Q6 (Q6 0) h0.words i)),.tail 5 1 v4,.var g4 40 (hA E9),.var g2 395 wJ])
  (λi=>i<=8) (λi=>8-i) 0 zc slr (Nat.zero_le _) ?_
 intro i hi;have hw8:h0.words.length=8:=rfl;repeat' first|refine Wz ?_|intro
 refine w9 (λhlt=>?_) (λhlt=>?_)
 ·have hi8:i<h0.words.length:=om
  repeat' first|refine Wz ?_|intro
  refine Y2 (l:=h0.words) (f:=λx=>.lit (Q6 x)) i hi8 ?_;repeat' first|refine Wz ?_|intro
  refine O1 i ?_;repeat' first|refine Wz ?_|intro
  refine kD (j:=i) (ps:=fill Q6 (Q6 0) h0.words i) (by rw[Qp om];omega) ?_;rw[Qo hi8];repeat' first|refine Wz ?_|intro
  exact o9 (i+1) zc slr om om
 obtain rfl:i=h0.words.length:=by omega
 rw[Qq];repeat' first|refine Wz ?_|intro
 refine y9 (α:=Nat) (λq=>[(2,ptr g2),(4,ptr g4),(5,.sl 1 (P.map A7) (some v4)),(8,ptr g8),(10,int (64*(q:Int)))]) (λq=>[.var g8 438 (iW (lU h0 q P)),.tail 5 1 v4,.var g4 40 (hA E9),.var g2 395 wJ])
  (λq=>64*q<=P.length) (λq=>P.length-64*q) 0 zc slr (Nat.zero_le _) ?_
 intro q hq;have hlPm:(P.map A7).length=P.length:=llm _;repeat' first|refine Wz ?_|intro
 refine w9 (λhlt=>?_) (λhlt=>?_)
 ·rw[hlPm] at hlt;repeat' first|refine Wz ?_|intro
  apply zf [];exact zi;intro _ _;refine jC (64*q) (64*q+64) ?_;exact j3 (p9 rfl rfl);repeat' first|refine Wz ?_|intro
  have e:yH (lU h0 q P) ((P.take (64*q+64)).drop (64*q))=lU h0 (q+1) P:=by
   rw[Bu,List.drop_take];congr 2
   omega
  rw[e];have e2:(64:Int)*(q:Int)+64=64*((q+1:Nat):Int):=by omega
  rw[e2];exact o9 (q+1) zc slr om om
 rw[hlPm] at hlt;obtain rfl:q=P.length / 64:=by omega
 have hsha:bH s=⟨(lU h0 (P.length / 64) P).bytes,rfl⟩:=Hsh.ext' (by rw[<- hPP];rfl);rw[hsha];generalize lU h0 (P.length / 64) P=X at *;repeat' first|refine Wz ?_|intro
 rename_i g11;refine y9 (α:=Nat) (λi=>[(4,ptr g4),(8,ptr g8),(11,ptr g11),(12,int i)]) (λi=>[.var g11 40 (.agg 32 (fill y5 (y5 0) X.bytes i)),.var g8 438 (iW X),.var g4 40 (hA E9)])
  (λi=>i<=32) (λi=>32-i) 0 zc zd (Nat.zero_le _) ?_
 intro i hi;have hb32:X.bytes.length=32:=rfl;repeat' first|refine Wz ?_|intro
 refine w9 (λhlt=>?_) (λhlt=>?_)
 ·have hi32:i<X.bytes.length:=om
  repeat' first|refine Wz ?_|intro
  refine O1 (i / 4) ?_;repeat' first|refine Wz ?_|intro
  refine bV (j:=i / 4) (ps:=X.words.map λx=>.lit (Q6 x)) (u:=X5 (X.words.getD (i / 4) 0)) (by rw[List.getElem?_map,MP X (i / 4) om];rfl) ?_;repeat' first|refine Wz ?_|intro
  refine HY (24-8*(i%4)) ?_;repeat' first|refine Wz ?_|intro
  have hg:=Uh X i om;rw[List.getElem?_eq_getElem hi32] at hg;injection hg with hg
  rw[BitVec.toNat_ushiftRight,Nat.shiftRight_eq_div_pow,Cw,<- hg];refine O1 i ?_;refine kD (j:=i) (ps:=fill y5 (y5 0) X.bytes i) (by rw[Qp om];omega) ?_;rw[Qo hi32];repeat' first|refine Wz ?_|intro
  exact o9 (i+1) zc slr om om
 obtain rfl:i=X.bytes.length:=by omega
 rw[Qq];exact aP⟩
end

theorem a1V {s:Bs}(hl:s.length<=35184372088832):SpecE prog GL 263 [str s] (hA (bH s)):=by
 refine ze func263 ntmps263 λ_ hs=>?_;repeat' first|refine Wz ?_|intro
 refine Bd (args:=[wJ,str s]) (hc:=a5F) hl ?_;exact aP
instance b9j {s:Bs}{n:Nat}[h:LenLe s n]:Ans prog GL 263 [str s] (n<=35184372088832) (hA (bH s)):=⟨λhn=>a1V (Nat.le_trans h.out hn)⟩
theorem WB (a b c:Bs):uA [a,b,c]=bH (a++b++c):=by simp[uA]
instance b7A {a b:Bs}:Ans prog GL 264 [.agg 2 [str a,str b]] True (hA (U3 ⟨a,b⟩)):=⟨λ_=>by
 refine ze func264 ntmps264 λ_ hs=>?_;repeat' first|refine Wz ?_|intro
 refine j6 ?_;rw[U3,WB];rfl⟩
instance b7u {a b:Hsh}:Ans prog GL 265 [hA a,hA b] True (hA (oV a b)):=⟨λ_=>by
 refine ze func265 ntmps265 λ_ hs=>?_;repeat' first|refine Wz ?_|intro
 refine j6 ?_;rw[oV,WB];rfl⟩
instance b7e {n:Int}{h:Hsh}:Ans prog GL 161 [int n,hA h] (n<=9223372036854775807) (hA (xE n h)):=⟨λhn=>by
 refine ze func161 ntmps161 λ_ hs=>?_;repeat' first|refine Wz ?_|intro
 refine j6 ?_;rw[xE,WB];rfl⟩
theorem a1n (n:Nat):n<=1000000->∀ {l:List Ent} {xs:List AV} {id:Option Value} [Ents xs l],Ans prog GL 162 [.sl 2 xs id] (l.length<=n) (hA (gX (l.map U3))):=by
 induction n with
 | zero=>
  intro _ l xs id hx;refine⟨λhl=>?_⟩;have h:=hx.out;subst h;obtain rfl:l=[]:=List.eq_nil_of_length_eq_zero om;refine ze func162 ntmps162 λ_ hs=>?_;exact aP
 | succ n ih=>
  intro hn l xs id hx;have ih:=@ih om;refine⟨λhl=>?_⟩;have h:=hx.out;subst h;have hm:(l.map D5).length=l.length:=llm _;refine ze func162 ntmps162 λ_ hs=>?_;repeat' first|refine Wz ?_|intro
  refine w9 (λh0=>?_) (λh0=>?_)
  ·obtain rfl:l=[]:=List.eq_nil_of_length_eq_zero om;exact aP
  repeat' first|refine Wz ?_|intro
  refine w9 (λh1=>?_) (λh1=>?_)
  ·obtain⟨x,rfl⟩:∃ x,l=[x]:=List.length_eq_one_iff.1 om;repeat' first|refine Wz ?_|intro
   refine Y2 0 (show 0<[x].length by simp) ?_;exact aP
  repeat' first|refine Wz ?_|intro
  have hk0:(((l.map D5).length:Int)+1) / 2=(((l.length+1) / 2:Nat):Int):=om
  rw[hk0];have hst:=Da (l.map U3) (by rw[llm];omega);rw[llm,<- List.map_take,<- List.map_drop] at hst;generalize hk:(l.length+1) / 2=k at *;apply zf [];exact zi;intro _ _;refine jC 0 k ?_;exact j3 (p9 rfl rfl);repeat' first|refine Wz ?_|intro
  apply zf [];exact zi;intro _ _;refine jC k l.length ?_;exact j3 (p9 rfl rfl);repeat' first|refine Wz ?_|intro
  refine j6 ?_;rw[hst,List.drop_zero,List.take_length];rfl
instance b7d {l:List Ent}{xs:List AV}{id:Option Value}[Ents xs l]:Ans prog GL 162 [.sl 2 xs id] (l.length<=1000000) (hA (gX (l.map U3))):=a1n 1000000 (Nat.le_refl _)
instance b7h {d:List Ent}{xs:List AV}{id:Option Value}[hx:Ents xs d]:Ans prog GL 70 [.sl 2 xs id] (d.length<=1000000) (hA (xE d.length (gX (d.map U3)))):=⟨λhl=>by
 have h:=hx.out;subst h;have hm:(d.map U3).length=d.length:=llm _;have hm2:(d.map D5).length=d.length:=llm _;refine ze func70 ntmps70 λ_ hs=>?_;repeat' first|refine Wz ?_|intro
 refine j6 ?_;rw[<- hm2];rfl⟩
end Go.Proofs.Z
