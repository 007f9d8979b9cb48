/- . -/
import Derived.Test.YtgcmdlboancepaaGreatDoorQ21
namespace Go.Proofs.Z
open Go Go.RowKit Tw Av Go.Proofs.Tryz
section
variable {s:Bs}{b:Bool}{g:Nat}
theorem wH :Av.Spec prog GL 139 [str s] [] λu m=>∃ g,u=ptr g/\m=[.var g 311 (F7 s false)]:=by
 refine ze func139 ntmps139 λ_ hs=>?_;repeat' first|refine O ?_|intro
 exact l9 _ ⟨_,rfl,rfl⟩ slr
instance b5m :AnsM prog GL 249 g [] 311 (F7 s b) True (d9 (!b)) (F7 s b):=⟨λ_=>by
 refine ze func249 ntmps249 λ_ hs=>?_;repeat' first|refine O ?_|intro
 exact l9 _ ⟨rfl,rfl⟩ slr⟩
instance b5n :AnsM prog GL 247 g [] 311 (F7 s b) True (.tup []) (F7 s true):=⟨λ_=>by
 refine ze func247 ntmps247 λ_ hs=>?_;repeat' first|refine O ?_|intro
 exact jS _ ⟨rfl,rfl⟩ slr⟩
def Kq (s:Bs)(b:Bool):UInt8:=if b=true then 0 else s.headD 0
def a2Z (s:Bs)(b:Bool):Bool:=!b&&decide (s≠[])
instance b5k :AnsM prog GL 273 g [] 311 (F7 s b) True (.tup [A7 (Kq s b),d9 (a2Z s b)]) (F7 s b):=⟨λ_=>by
 refine ze func273 ntmps273 λ_ hs=>?_;cases b
 ·cases s with
  | nil=>
   repeat' first|refine Yz ?_|intro
   exact l9 _ ⟨rfl,rfl⟩ slr
  | cons c s=>
   repeat' first|refine Yz ?_|intro
   exact l9 _ ⟨rfl,rfl⟩ slr
 repeat' first|refine Yz ?_|intro
 exact l9 _ ⟨rfl,rfl⟩ slr⟩
instance b5l :AnsM prog GL 250 g [] 311 (F7 s b) True (int (if b=true then 0 else s.length:Nat)) (F7 s b):=⟨λ_=>by
 refine ze func250 ntmps250 λ_ hs=>?_;cases b
 ·repeat' first|refine Yz ?_|intro
  exact l9 _ ⟨rfl,rfl⟩ slr
 repeat' first|refine Yz ?_|intro
 exact l9 _ ⟨rfl,rfl⟩ slr⟩
instance a1O :AnsM prog GL 142 g [] 311 (F7 s b) True (int (U7 s b)) (F7 s b):=⟨λ_=>by
 refine ze func142 ntmps142 λ_ hs=>?_;cases b
 ·cases s with
  | nil=>
   repeat' first|refine Yz ?_|intro
   exact l9 _ ⟨rfl,rfl⟩ slr
  | cons c s=>
   repeat' first|refine Yz ?_|intro
   exact l9 _ ⟨rfl,rfl⟩ slr
 repeat' first|refine Yz ?_|intro
 exact l9 _ ⟨rfl,rfl⟩ slr⟩
def EF (a b c:UInt8):Nat->Nat
 | 0=>0
 | 1=>0*256+a.toNat
 | 2=>(0*256+a.toNat)*256+b.toNat
 | _=>((0*256+a.toNat)*256+b.toNat)*256+c.toNat
instance a1L {c most:Int}:AnsM prog GL 181 g [.lit (.int .u8 c),int most] 311 (F7 s b) (s.length<=4611686018427387904) (str (G9 c most s b)) (F7 (o8 c most s b) (F4 c most s b)):=⟨λhl=>by
 refine ze func181 ntmps181 λ_ hs=>?_;cases b;rotate_left
 ·repeat' first|refine Yz ?_|intro
  refine l9 [.var g 311 (F7 s true)] ⟨?_,?_⟩ slr
  ·rw[G9,zL];rfl
  rw[o8,F4,zL];rfl
 rcases s with _|⟨s0,s⟩
 ·repeat' first|refine Yz ?_|intro
  exact l9 [.var g 311 (F7 [] true)] ⟨rfl,rfl⟩ slr
 have hn:(Kq (s0::s) false).toNat=s0.toNat:=rfl;by_cases hc:(s0.toNat:Int)=c
 rotate_left
 ·have e:bE c most false (s0::s)=none:=by
   rcases s with _|⟨s1,_|⟨s2,_|⟨s3,r⟩⟩⟩
   ·rfl
   ·rfl
   ·rfl
   rw[bE,if_neg (λh=>hc h.2.1)]
  repeat' first|refine Yz ?_|intro
  refine l9 [.var g 311 (F7 (s0::s) true)] ⟨?_,?_⟩ slr
  ·rw[G9,e];rfl
  rw[o8,F4,e];rfl
 rcases s with _|⟨s1,_|⟨s2,_|⟨s3,r⟩⟩⟩
 ·repeat' first|refine Yz ?_|intro
  exact l9 [.var g 311 (F7 [s0] true)] ⟨rfl,rfl⟩ slr
 ·repeat' first|refine Yz ?_|intro
  exact l9 [.var g 311 (F7 [s0,s1] true)] ⟨rfl,rfl⟩ slr
 ·repeat' first|refine Yz ?_|intro
  exact l9 [.var g 311 (F7 [s0,s1,s2] true)] ⟨rfl,rfl⟩ slr
 have hlen:(s0::s1::s2::s3::r).length=r.length+4:=rfl;have q1:=s1.toNat_lt;have q2:=s2.toNat_lt;have q3:=s3.toNat_lt;repeat' first|refine Yz ?_|intro
 refine Z4 1 4 ?_;repeat' first|refine Yz ?_|intro
 refine y9 (α:=Nat) (λi=>[(0,ptr g),(2,int most),(9,int (EF s1 s2 s3 i:Nat)),(40,.sl 1 [.lit (y5 s1),.lit (y5 s2),.lit (y5 s3)] none),(41,int 3),(42,int i)]) (λ_=>[.var g 311 (F7 (s0::s1::s2::s3::r) false)])
  (λi=>i<=3) (λi=>3-i) 0 zc slr om ?_
 intro i hi;rcases i with _|_|_|_|i
 ·have v0:EF s1 s2 s3 0=0:=rfl;repeat' first|refine Yz ?_|intro
  exact o9 1 zc slr om om
 ·have v1:EF s1 s2 s3 (0+1)=0*256+s1.toNat:=rfl;repeat' first|refine Yz ?_|intro
  exact o9 2 zc slr om om
 ·have v1:EF s1 s2 s3 (0+1+1)=(0*256+s1.toNat)*256+s2.toNat:=rfl;repeat' first|refine Yz ?_|intro
  exact o9 3 zc slr om om
 rotate_left
 ·exact absurd hi om
 have hv:EF s1 s2 s3 (0+1+1+1)=eO s1 s2 s3:=by simp[EF,eO]
 have hlt:=PW s1 s2 s3;have hct:bE c most false (s0::s1::s2::s3::r)=if (eO s1 s2 s3:Int)<=most/\eO s1 s2 s3<=r.length then some (r.take (eO s1 s2 s3),r.drop (eO s1 s2 s3)) else none:=by
  rw[bE];simp[hc]
 rw[hv];generalize eO s1 s2 s3=n at *;by_cases h1:(n:Int)<=most
 rotate_left
 ·have e:bE c most false (s0::s1::s2::s3::r)=none:=by rw[hct,if_neg (λh=>h1 h.1)]
  repeat' first|refine Yz ?_|intro
  refine l9 [.var g 311 (F7 (s0::s1::s2::s3::r) true)] ⟨?_,?_⟩ slr
  ·rw[G9,e];rfl
  rw[o8,F4,e];rfl
 by_cases h2:n<=r.length
 rotate_left
 ·have e:bE c most false (s0::s1::s2::s3::r)=none:=by rw[hct,if_neg (λh=>h2 h.2)]
  repeat' first|refine Yz ?_|intro
  refine l9 [.var g 311 (F7 (s0::s1::s2::s3::r) true)] ⟨?_,?_⟩ slr
  ·rw[G9,e];rfl
  rw[o8,F4,e];rfl
 have e:bE c most false (s0::s1::s2::s3::r)=some (r.take n,r.drop n):=by rw[hct,if_pos ⟨h1,h2⟩]
 repeat' first|refine Yz ?_|intro
 refine Z4 4 (4+n) ?_;repeat' first|refine Yz ?_|intro
 refine Z4 (4+n) (r.length+4) ?_;repeat' first|refine Yz ?_|intro
 refine l9 [.var g 311 (F7 (r.drop n) false)] ⟨?_,?_⟩ ?_
 ·rw[G9,e];simp[D8,Nat.add_comm]
 ·rw[o8,F4,e];rfl
 have e2:List.drop (4+n) (List.take (r.length+4) (s0::s1::s2::s3::r))=r.drop n:=by
  rw[List.take_of_length_le sm,Nat.add_comm 4 n];simp
 rw[e2];exact List.Sublist.refl _⟩
end

section
variable {b:Bool}{s:Bs}{c:Int}
theorem JK :uZ c s b=if mQ (G9 c 8 s b)=true then 0 else numOf (G9 c 8 s b):=rfl
theorem Gf (c:Int)(s:Bs)(b:Bool):uZ c s b<18446744073709551616:=by
 rw[JK];have h:=(xJ c 8 s b).2 dc;have:=KE (l:=G9 c 8 s b) om;split <;> omega
instance rdNum {g:Nat}:AnsM prog GL 246 g [.lit (.int .u8 c)] 311 (F7 s b) (s.length<=4611686018427387904) (.lit (.int .u64 (uZ c s b))) (F7 (o8 c 8 s b) (qO c s b)):=⟨λhl=>by
 refine ze func246 ntmps246 λ_ hs=>?_;repeat' first|refine Yz ?_|intro
 have hx:=(xJ c 8 s b).2 dc;rw[qO,JK];generalize G9 c 8 s b=x at *;refine y9 (α:=Nat) (λi=>[(0,ptr g),(5,str x),(6,.lit (.int .u64 (numOf (x.take i):Nat))),(12,int x.length),(13,int i)]) (λ_=>[.var g 311 (F7 (o8 c 8 s b) (F4 c 8 s b))])
  (λi=>i<=x.length) (λi=>x.length-i) 0 zc slr om ?_
 intro i hi;repeat' first|refine Yz ?_|intro
 refine w9 (λhlt=>?_) (λhlt=>?_)
 ·have hil:i<x.length:=om
  have h1:=Kk hil;have h2:=x[i].toNat_lt;have h3:=KE (l:=x.take (i+1)) (by simp;omega);repeat' first|refine Yz ?_|intro
  refine vY i ?_ (List.getElem?_eq_getElem hil);repeat' first|refine Yz ?_|intro
  refine o9 (i+1) ⟨rfl,rfl,?_,rfl,rfl,trivial⟩ slr hil om;rw[h1];rfl
 obtain rfl:i=x.length:=by omega
 rw[List.take_length];cases x with
 | nil=>
  repeat' first|refine Yz ?_|intro
  refine l9 [.var g 311 (F7 (o8 c 8 s b) (F4 c 8 s b))] ⟨rfl,?_⟩ slr;simp[mQ]
 | cons a x=>
  have ha:mQ (a::x)=decide ((a.toNat:Int)=0):=by
   rw[PX];refine decide_eq_decide.2 ⟨λh=>by rw[h];rfl,λh=>UInt8.toNat.inj (by simpa using h)⟩
  rw[ha];by_cases h0:(a.toNat:Int)=0
  ·rw[dT h0];repeat' first|refine Yz ?_|intro
   refine l9 [.var g 311 (F7 (o8 c 8 s b) true)] ⟨rfl,?_⟩ slr;simp
  rw[dZ h0];repeat' first|refine Yz ?_|intro
  refine l9 [.var g 311 (F7 (o8 c 8 s b) (F4 c 8 s b))] ⟨rfl,?_⟩ slr;simp⟩
instance a1N {g:Nat}{most:Int}:AnsM prog GL 140 g [.lit (.int .u8 c),int most] 311 (F7 s b) (s.length<=4611686018427387904/\0<=most/\most<=9223372036854775807) (int (L9 c most s b)) (F7 (o8 c 8 s b) (N9 c most s b)):=⟨λhp=>by
 obtain⟨hl,h0,h1⟩:=hp;refine ze func140 ntmps140 λ_ hs=>?_;repeat' first|refine Yz ?_|intro
 have hx:=Gf c s b;rw[L9,N9];generalize uZ c s b=n at *;by_cases h:most<(n:Int)
 ·rw[if_pos h,dT h];repeat' first|refine Yz ?_|intro
  refine l9 [.var g 311 (F7 (o8 c 8 s b) true)] ⟨rfl,?_⟩ slr;simp
 rw[if_neg h,dZ h];repeat' first|refine Yz ?_|intro
 refine l9 [.var g 311 (F7 (o8 c 8 s b) (qO c s b))] ⟨rfl,?_⟩ slr;simp⟩
end

section
variable {c most:Int}{s:Bs}
theorem a8J {go gi gr gl gm:Nat}{acc:List Bs}{v:Value}{b:Bool}(hl:s.length<=4611686018427387904)(hn:acc.length<=1000000000):Av.Spec prog GL 248 [ptr go,ptr gi,ptr gl,ptr gm]
  [.tail 9 1 v,.var go 111 (.sl 1 (acc.map str) (some v)),.var gi 223 (ptr gr),.var gr 311 (F7 s b),.var gm 3 (int most),.var gl 5 (.lit (.int .u8 c))]
  λu m=>∃ v',u=d9 (!F4 c most s b)/\m=[.tail 9 1 v',.var go 111 (.sl 1 ((acc++[G9 c most s b]).map str) (some v')),.var gi 223 (ptr gr),.var gr 311 (F7 (o8 c most s b) (F4 c most s b)),.var gm 3 (int most),.var gl 5 (.lit (.int .u8 c))]:=by
 refine ze func248 ntmps248 λ_ hs=>?_;repeat' first|refine Yz ?_|intro
 apply U2 [0];exact rfl;exact rfl;exact rfl;kernel_rfl;intro _ _;refine H7 (λv'=>?_);refine j3 (N7 [.tail 9 1 v'] [] rfl rfl lpr rfl ?_);repeat' first|refine Yz ?_|intro
 refine l9 _ ⟨v',rfl,rfl⟩ ?_;rw[List.map_append];exact List.Sublist.refl _
theorem Af {f:Nat}:jA c most (f+1) [] false=([],false):=by rw[jA,if_pos (.inr rfl)]
theorem Ur :∀ {f:Nat} {s:Bs},jA c most f s true=([],true)
 | 0,_=>rfl
 | f+1,s=>by rw[jA,if_pos (.inl rfl)]
theorem Uq {f:Nat}{a:UInt8}:jA c most (f+1) (a::s) false=(G9 c most (a::s) false::(jA c most f (o8 c most (a::s) false) (F4 c most (a::s) false)).1,(jA c most f (o8 c most (a::s) false) (F4 c most (a::s) false)).2):=by rw[jA,if_neg sm]
instance b5p {g:Nat}{b:Bool}{many:Int}:AnsM prog GL 141 g [.lit (.int .u8 c),int many,int most] 311 (F7 s b) (s.length<=1000000000) (.sl 1 ((jJ c many most s b).map str) none) (F7 (o8 c 16777215 s b) (eF c many most s b)):=⟨λhl=>by
 refine ze func141 ntmps141 λ_ hs=>?_;repeat' first|refine Yz ?_|intro
 have hx:=(xJ c 16777215 s b).1;have hx2:=(aH c 16777215 s b).1;rw[jJ,eF];generalize G9 c 16777215 s b=x at *;generalize o8 c 16777215 s b=s1 at *;generalize F4 c 16777215 s b=b1 at *;refine H6 (args:=[str x]) [] _ (by rw[hs];exact wH) (λu m1 hh=>?_) lpr;obtain⟨gr,rfl,rfl⟩:=hh;repeat' first|refine Yz ?_|intro
 rename_i gl gm gi go;refine Y3 (vs:=[.pointer (some ⟨go,0,none⟩),.pointer (some ⟨gi,0,none⟩),.pointer (some ⟨gl,0,none⟩),.pointer (some ⟨gm,0,none⟩)]) ?_;repeat' first|refine Yz ?_|intro
 generalize hX:DW c most x=X at *;refine dY (g:=go) (v':=.sl 1 [] (some (.slice none 0 0))) ImpC.nilT ?_;refine P6 (λok w h=>h.full 9 1 none 0) ?_;refine SN (α:=Value) (λ_=>[(0,ptr g),(2,int many),(10,ptr go)]) (λv=>[.tail 9 1 v,.var go 111 (.sl 1 (X.1.map str) (some v)),.var g 311 (F7 s1 (b1 || X.2))]) ?_ (λv=>?_)
 focus
  refine y9 (α:=List Bs × Value × Bs × Nat) (λ_=>[(0,ptr g),(2,int many),(9,ptr gi),(10,ptr go),(11,E5 248 [.pointer (some ⟨go,0,none⟩),.pointer (some ⟨gi,0,none⟩),.pointer (some ⟨gl,0,none⟩),.pointer (some ⟨gm,0,none⟩)])])
   (λq=>[.tail 9 1 q.2.1,.var go 111 (.sl 1 (q.1.map str) (some q.2.1)),.var gi 223 (ptr gr),.var gr 311 (F7 q.2.2.1 false),.var gm 3 (int most),.var gl 5 (.lit (.int .u8 c)),.var g 311 (F7 s1 b1)])
   (λq=>X=(q.1++(jA c most q.2.2.2 q.2.2.1 false).1,(jA c most q.2.2.2 q.2.2.1 false).2)/\q.2.2.1.length<q.2.2.2/\q.1.length+q.2.2.1.length<=x.length) (λq=>q.2.2.2) ([],.slice none 0 0,x,x.length+1) zc slr ⟨hX.symm,by dsimp only;omega,sm⟩ ?_
  rintro⟨acc,v,s2,f⟩ ⟨e1,e2,e3⟩;dsimp only at e1 e2 e3 ⊢;rcases f with _|f
  focus
   omega
  cases s2 with
  | nil=>
   rw[Af,List.append_nil] at e1;subst e1;repeat' first|refine Yz ?_|intro
   refine aZ v zc ?_;rw[Bool.or_false];exact u7
  | cons a s2=>
   have hl2:(if false=true then 0 else (a::s2).length)=s2.length+1:=rfl;repeat' first|refine Yz ?_|intro
   refine gU (args:=[]) (cs:=[.pointer (some ⟨go,0,none⟩),.pointer (some ⟨gi,0,none⟩),.pointer (some ⟨gl,0,none⟩),.pointer (some ⟨gm,0,none⟩)])
    [.tail 9 1 v,.var go 111 (.sl 1 (acc.map str) (some v)),.var gi 223 (ptr gr),.var gr 311 (F7 (a::s2) false),.var gm 3 (int most),.var gl 5 (.lit (.int .u8 c))] [.var g 311 (F7 s1 b1)]
    (by rw[hs];exact a8J om om) (λu m1 hh=>?_) lpr
   obtain⟨v',rfl,rfl⟩:=hh;rw[Uq] at e1;have hle:=(aH c most (a::s2) false).1;have hlt:=UM (c:=c) (most:=most) (s:=a::s2) (b:=false);generalize G9 c most (a::s2) false=x' at *;generalize o8 c most (a::s2) false=s3 at *;cases hb:F4 c most (a::s2) false
   ·have hlt:=hlt hb;rw[hb] at e1;repeat' first|refine Yz ?_|intro
    refine o9 (acc++[x'],v',s3,f) zc slr ⟨?_,by dsimp only;omega,by simp only[List.length_append,List.length_cons,List.length_nil];omega⟩ (by dsimp only;omega);simpa using e1
   rw[hb,Ur] at e1;subst e1;repeat' first|refine Yz ?_|intro
   refine aZ v' zc ?_;rw[Bool.or_true];exact u7
 focus
  have hml:(X.1.map str).length=X.1.length:=llm _;unfold BZ yL;by_cases hm:many<(X.1.length:Int)
  ·rw[dT hm,Bool.or_true,Bool.or_true,if_pos rfl];repeat' first|refine Yz ?_|intro
   refine U6 (.sl 1 [] none) [.var g 311 (F7 s1 true)] ?_ ⟨rfl,rfl⟩ ?_
   focus
    exact Imp.nilN
   exact u7
  rw[dZ hm,Bool.or_false];cases hb:(b1 || X.2)
  ·repeat' first|refine Yz ?_|intro
   refine U6 (.sl 1 (X.1.map str) none) [.var g 311 (F7 s1 false)] ?_ ⟨rfl,rfl⟩ ?_
   focus
    exact Imp.sl
   exact u7
  repeat' first|refine Yz ?_|intro
  refine U6 (.sl 1 [] none) [.var g 311 (F7 s1 true)] ?_ ⟨rfl,rfl⟩ ?_
  focus
   exact Imp.nilN
  exact zd⟩
end

instance b7f {c:Int}{s:Bs}:Ans prog GL 64 [.lit (.int .u8 c),str s] True (str (r9 c s)):=⟨λ_=>by
 refine ze func64 ntmps64 λ_ hs=>?_;repeat' first|refine Wz ?_|intro
 refine w9 (λhl=>?_) (λhl=>?_)
 ·repeat' first|refine Wz ?_|intro
  have hb:(s.take 16777215).drop 0=s.take fC:=rfl;have hlen:(s.take fC).length=16777215:=by simp[fC];omega
  refine Z4 0 16777215 ?_;rw[hb];repeat' first|refine Wz ?_|intro
  refine j6 ?_;exact congrArg str (TL c s _ rfl)
 repeat' first|refine Wz ?_|intro
 refine j6 ?_;have hb:s.take fC=s:=List.take_of_length_le (by simp[fC];omega);have:=TL c s s.length (by rw[hb]);rw[hb] at this;exact congrArg str this⟩

instance b7M {n:Nat}:Ans prog GL 340 [.lit (.int .u64 n)] (n<18446744073709551616) (str (Tw.digits n)):=⟨λhn=>by
 refine ze func340 ntmps340 λ_ hs=>?_;repeat' first|refine Wz ?_|intro
 refine y9 (α:=Nat × Nat × Bs) (λq=>[(0,.lit (.int .u64 q.2.1)),(3,str q.2.2)]) (λ_=>[]) (λq=>q.2.1<256 ^ q.1/\q.2.2.length+q.1<=8/\aD q.1 q.2.1++q.2.2=Tw.digits n) (λq=>q.1) (8,n,[]) zc slr ⟨by simpa using hn,sm,by simp[Tw.digits]⟩ ?_;rintro⟨f,k,s⟩ ⟨g1,g2,g3⟩;dsimp only at g1 g2 g3 ⊢;repeat' first|refine Wz ?_|intro
 refine w9 (λhlt=>?_) (λhlt=>?_)
 ·obtain⟨f,rfl⟩:∃ f',f=f'+1:=⟨f-1,by
   rcases Nat.eq_zero_or_pos f with h|h
   ·subst h;simp at g1;omega
   omega⟩
  have h0:k≠0:=om
  rw[aD,if_neg h0,laa] at g3;have hk:k<18446744073709551616:=by
   have:256 ^ (f+1)<=256 ^ 8:=Nat.pow_le_pow_right om om;omega
  repeat' first|refine Wz ?_|intro
  rw[BK k];refine Bc (h2:=by intro c _ _;rw[IntKind.wrap_u64];omega) ?_;repeat' first|refine Wz ?_|intro
  have hq:(k:Int) / 256=((k / 256:Nat):Int):=om
  rw[hq];exact o9 (f,k / 256,[UInt8.ofNat k]++s) zc slr ⟨by simp only;rw[Nat.pow_succ] at g1;omega,by simp only[List.length_append,List.length_singleton];omega,by simpa using g3⟩ (Nat.lt_succ_self f)
 have h0:k=0:=om
 subst h0;have:aD f 0=[]:=by cases f <;> simp[aD]
 rw[this,List.nil_append] at g3;subst g3;exact aP⟩
instance Pv {c:Int}{n:Nat}:Ans prog GL 255 [.lit (.int .u8 c),.lit (.int .u64 n)] (n<18446744073709551616) (str (r9 c (Tw.digits n))):=⟨λhn=>by
 refine ze func255 ntmps255 λ_ hs=>?_;exact aP⟩
instance b7D {c:Int}{n:Int}:Ans prog GL 152 [.lit (.int .u8 c),int n] (n<=9223372036854775807) (str (D7 c n)):=⟨λhn=>by
 refine ze func152 ntmps152 λ_ hs=>?_;repeat' first|refine Wz ?_|intro
 refine w9 (λhlt=>?_) (λhlt=>?_)
 ·repeat' first|refine Wz ?_|intro
  refine Bd (show (0:Nat)<18446744073709551616 by omega) ?_ (hc:=Pv (n:=0));repeat' first|refine Wz ?_|intro
  refine j6 ?_;have:n.toNat=0:=by omega
  rw[D7,TM,this];rfl
 repeat' first|refine Wz ?_|intro
 obtain⟨k,rfl⟩:∃ k:Nat,n=k:=⟨n.toNat,om⟩;refine Bd (show k<18446744073709551616 by omega) ?_ (hc:=Pv (n:=k));exact aP⟩
instance b6n {x:W32}{c:Int}:Ans prog GL 448 [X5 x,.lit (.int .u64 c)] (0<c/\c<32) (X5 (aN x c.toNat)):=⟨λhc=>by
 obtain⟨n,rfl⟩:∃ n:Nat,c=n:=⟨c.toNat,om⟩;refine ze func448 ntmps448 λ_ hs=>?_;repeat' first|refine Wz ?_|intro
 refine HY n ?_;repeat' first|refine Wz ?_|intro
 refine EB ?_;have hw:IntKind.u64.wrap ((32:Int)-(n:Int))=((32-n:Nat):Int):=by rw[IntKind.wrap_u64];omega
 rw[hw];repeat' first|refine Wz ?_|intro
 refine HZ (32-n) ?_;repeat' (first|refine I7 ?_|refine I8 ?_|refine W ?_|refine D6 (λ_=>?_)|intro _)
 exact j6 rfl⟩
instance b7H {h:Hsh}:Ans prog GL 165 [hA h] True (str h.l):=⟨λ_=>by
 refine ze func165 ntmps165 λ_ hs=>?_;repeat' first|refine Wz ?_|intro
 rename_i g;have hlen:=h.len;refine Y4 3 (Imp.nil (k:=1)) ?_;refine P6 (λok w h=>h.full 5 1 none 0) ?_;refine y9 (α:=Nat × Value) (λq=>[(1,ptr g),(3,.sl 1 ((h.l.take q.1).map A7) (some q.2)),(4,int q.1)]) (λq=>[.tail 5 1 q.2,.var g 40 (.agg 32 (h.l.map A7))]) (λq=>q.1<=32) (λq=>32-q.1) (0,.slice none 0 0) zc slr (Nat.zero_le _) ?_;rintro⟨i,v⟩ g1;dsimp only at g1 ⊢;repeat' first|refine Wz ?_|intro
 refine w9 (λhlt=>?_) (λhlt=>?_)
 ·have hlt':i<h.l.length:=om
  repeat' first|refine Wz ?_|intro
  refine O1 i ?_;repeat' first|refine Wz ?_|intro
  refine a9z i hlt' ?_;repeat' first|refine Wz ?_|intro
  refine H7 (λv'=>?_);repeat' first|refine Wz ?_|intro
  have e:(h.l.take i).map A7++[A7 h.l[i]]=(h.l.take (i+1)).map A7:=by rw[List.take_succ_eq_append_getElem hlt',List.map_append];rfl
  rw[e];exact o9 (i+1,v') zc slr (by simp only;omega) (by simp only;omega)
 repeat' first|refine Wz ?_|intro
 rw[List.take_of_length_le om];exact aP⟩

section
abbrev wJ:AV:=.agg 2 [.sl 1 (h0.words.map λx=>.lit (Q6 x)) none,.sl 1 (mR.map λx=>.lit (Q6 x)) none]
theorem gd {l:Bs}{i:Nat}(h:i<l.length):l.getD i 0=l[i]:=by simp[List.getD,h]
theorem gdk {l:List W32}{i:Nat}(h:i<l.length):l.getD i 0=l[i]:=by simp[List.getD,h]
theorem a7Q (e f g:W32):(e &&& f) ^^^ (~~~ e &&& g)=g ^^^ e &&& (f ^^^ g):=by
 apply BitVec.eq_of_getLsbD_eq;intro i hi;simp only[BitVec.getLsbD_xor,BitVec.getLsbD_and,BitVec.getLsbD_not,hi,decide_true,Bool.true_and];cases e.getLsbD i <;> cases f.getLsbD i <;> cases g.getLsbD i <;> rfl
theorem a3G (a b c:W32):(a &&& b) ^^^ (a &&& c) ^^^ (b &&& c)=a &&& b ||| c &&& (a ||| b):=by
 apply BitVec.eq_of_getLsbD_eq;intro i hi;simp only[BitVec.getLsbD_xor,BitVec.getLsbD_and,BitVec.getLsbD_or];cases a.getLsbD i <;> cases b.getLsbD i <;> cases c.getLsbD i <;> rfl
def UQ (k w:W32)(y:H8):H8:=
 ⟨y.h+(aN y.e 6 ^^^ aN y.e 11 ^^^ aN y.e 25)+((y.e &&& y.f) ^^^ (~~~ y.e &&& y.g))+k+w+((aN y.a 2 ^^^ aN y.a 13 ^^^ aN y.a 22)+((y.a &&& y.b) ^^^ (y.a &&& y.c) ^^^ (y.b &&& y.c))),y.a,y.b,y.c,
  y.d+(y.h+(aN y.e 6 ^^^ aN y.e 11 ^^^ aN y.e 25)+((y.e &&& y.f) ^^^ (~~~ y.e &&& y.g))+k+w),y.e,y.f,y.g⟩
theorem a1t (k w:W32)(y:H8):round k w y=UQ k w y:=by
 unfold round UQ;simp only[a7Q,a3G,BitVec.add_assoc]
theorem b0y (x y:H8)(i:Nat)(h:i<8):((pW x y i).map λx=>AV.lit (Q6 x)).set i (X5 (x.words.getD i 0+y.words.getD i 0))=(pW x y (i+1)).map λx=>AV.lit (Q6 x):=by
 rw[<- Xh x y i h,List.map_set]
attribute [local irreducible] Av.Obl
set_option maxHeartbeats 4000000 in
instance b7U {x:H8}{blk:Bs}{id:Option Value}:Ans prog GL 404 [wJ,iW x,.sl 1 (blk.map A7) id] (blk.length=64) (iW (yH x blk)):=⟨λhbl=>by
 refine ze func404 ntmps404 λ_ hs=>?_;repeat' first|refine Wz ?_|intro
 rename_i g3 g4 g6 g7;refine dY (g:=g7) (v':=.agg 64 (wA blk 0)) (λok w cs h=>h) ?_;refine y9 (α:=Nat) (λi=>[(2,.sl 1 (blk.map A7) id),(3,ptr g3),(4,ptr g4),(6,ptr g6),(7,ptr g7),(8,int i)])
   (λi=>[.var g7 459 (.agg 64 (wA blk i)),.var g6 438 (iW ⟨0,0,0,0,0,0,0,0⟩),.var g4 438 (iW x),.var g3 395 wJ]) (λi=>i<=64) (λi=>64-i) 0 zc slr (Nat.zero_le _) ?_
 intro i hi;repeat' first|refine Wz ?_|intro
 refine w9 (λhlt=>?_) (λhlt=>?_)
 ·repeat' first|refine Wz ?_|intro
  have hn:=TF blk i om;have hl64:=MS blk i om;refine w9 (λh16=>?_) (λh16=>?_)
  ·repeat' (first|refine I7 ?_|refine I8 ?_|refine W ?_|refine D6 (λ_=>?_)|intro _)
   apply zf [];exact zi;intro _ _;refine Y2 (l:=blk) (f:=A7) (4*i) om ?_;exact j3 (p9 rfl rfl);repeat' (first|refine I7 ?_|refine I8 ?_|refine W ?_|refine D6 (λ_=>?_)|intro _)
   apply zf [];exact zi;intro _ _;refine Y2 (l:=blk) (f:=A7) (4*i+1) om ?_;exact j3 (p9 rfl rfl);repeat' (first|refine I7 ?_|refine I8 ?_|refine W ?_|refine D6 (λ_=>?_)|intro _)
   apply zf [];exact zi;intro _ _;refine Y2 (l:=blk) (f:=A7) (4*i+2) om ?_;exact j3 (p9 rfl rfl);repeat' (first|refine I7 ?_|refine I8 ?_|refine W ?_|refine D6 (λ_=>?_)|intro _)
   apply zf [];exact zi;intro _ _;refine Y2 (l:=blk) (f:=A7) (4*i+3) om ?_;exact j3 (p9 rfl rfl);repeat' (first|refine I7 ?_|refine I8 ?_|refine W ?_|refine D6 (λ_=>?_)|intro _)
   apply zf [];exact zi;intro _ _;refine O1 i ?_;exact j3 (p9 rfl rfl);apply dH [0];exact rfl;exact rfl;kernel_rfl
   ·intro _ _;refine kD (j:=i) (ps:=wA blk i) om ?_;exact j3 (dX rfl)
   ·exact rfl
   ·exact rfl
   have e:vW blk[4*i] <<< 24 ||| vW blk[4*i+1] <<< 16 ||| vW blk[4*i+2] <<< 8 ||| vW blk[4*i+3]=wM blk i:=by
    rw[wM,if_pos om,ED,gd,gd,gd,gd]
   rw[e,hn];repeat' first|refine Wz ?_|intro
   refine o9 (i+1) zc slr om om
  repeat' (first|refine I7 ?_|refine I8 ?_|refine W ?_|refine D6 (λ_=>?_)|intro _)
  apply zf [];exact zi;intro _ _;refine O1 (i-15) ?_;exact j3 (p9 rfl rfl);repeat' (first|refine I7 ?_|refine I8 ?_|refine W ?_|refine D6 (λ_=>?_)|intro _)
  apply zf [0];exact zi;intro _ _;refine bV (j:=i-15) (ps:=wA blk i) (oC blk i (i-15) om) ?_;exact j3 (p9 rfl rfl);repeat' (first|refine I7 ?_|refine I8 ?_|refine W ?_|refine D6 (λ_=>?_)|intro _)
  apply zf [];exact zi;intro _ _;refine O1 (i-15) ?_;exact j3 (p9 rfl rfl);repeat' (first|refine I7 ?_|refine I8 ?_|refine W ?_|refine D6 (λ_=>?_)|intro _)
  apply zf [0];exact zi;intro _ _;refine bV (j:=i-15) (ps:=wA blk i) (oC blk i (i-15) om) ?_;exact j3 (p9 rfl rfl);repeat' (first|refine I7 ?_|refine I8 ?_|refine W ?_|refine D6 (λ_=>?_)|intro _)
  apply zf [];exact zi;intro _ _;refine O1 (i-15) ?_;exact j3 (p9 rfl rfl);repeat' (first|refine I7 ?_|refine I8 ?_|refine W ?_|refine D6 (λ_=>?_)|intro _)
  apply zf [0];exact zi;intro _ _;refine bV (j:=i-15) (ps:=wA blk i) (oC blk i (i-15) om) ?_;exact j3 (p9 rfl rfl);repeat' (first|refine I7 ?_|refine I8 ?_|refine W ?_|refine D6 (λ_=>?_)|intro _)
  apply zf [];exact zi;intro _ _;refine O1 (i-2) ?_;exact j3 (p9 rfl rfl);repeat' (first|refine I7 ?_|refine I8 ?_|refine W ?_|refine D6 (λ_=>?_)|intro _)
  apply zf [0];exact zi;intro _ _;refine bV (j:=i-2) (ps:=wA blk i) (oC blk i (i-2) om) ?_;exact j3 (p9 rfl rfl);repeat' (first|refine I7 ?_|refine I8 ?_|refine W ?_|refine D6 (λ_=>?_)|intro _)
  apply zf [];exact zi;intro _ _;refine O1 (i-2) ?_;exact j3 (p9 rfl rfl);repeat' (first|refine I7 ?_|refine I8 ?_|refine W ?_|refine D6 (λ_=>?_)|intro _)
  apply zf [0];exact zi;intro _ _;refine bV (j:=i-2) (ps:=wA blk i) (oC blk i (i-2) om) ?_;exact j3 (p9 rfl rfl);repeat' (first|refine I7 ?_|refine I8 ?_|refine W ?_|refine D6 (λ_=>?_)|intro _)
  apply zf [];exact zi;intro _ _;refine O1 (i-2) ?_;exact j3 (p9 rfl rfl);repeat' (first|refine I7 ?_|refine I8 ?_|refine W ?_|refine D6 (λ_=>?_)|intro _)
  apply zf [0];exact zi;intro _ _;refine bV (j:=i-2) (ps:=wA blk i) (oC blk i (i-2) om) ?_;exact j3 (p9 rfl rfl);repeat' (first|refine I7 ?_|refine I8 ?_|refine W ?_|refine D6 (λ_=>?_)|intro _)
  apply zf [];exact zi;intro _ _;refine O1 (i-7) ?_;exact j3 (p9 rfl rfl);repeat' (first|refine I7 ?_|refine I8 ?_|refine W ?_|refine D6 (λ_=>?_)|intro _)
  apply zf [0];exact zi;intro _ _;refine bV (j:=i-7) (ps:=wA blk i) (oC blk i (i-7) om) ?_;exact j3 (p9 rfl rfl);repeat' (first|refine I7 ?_|refine I8 ?_|refine W ?_|refine D6 (λ_=>?_)|intro _)
  apply zf [];exact zi;intro _ _;refine O1 (i-16) ?_;exact j3 (p9 rfl rfl);repeat' (first|refine I7 ?_|refine I8 ?_|refine W ?_|refine D6 (λ_=>?_)|intro _)
  apply zf [0];exact zi;intro _ _;refine bV (j:=i-16) (ps:=wA blk i) (oC blk i (i-16) om) ?_;exact j3 (p9 rfl rfl);repeat' (first|refine I7 ?_|refine I8 ?_|refine W ?_|refine D6 (λ_=>?_)|intro _)
  apply zf [];exact zi;intro _ _;refine O1 i ?_;exact j3 (p9 rfl rfl);apply dH [0];exact rfl;exact rfl;kernel_rfl
  ·intro _ _;refine kD (j:=i) (ps:=wA blk i) om ?_;exact j3 (dX rfl)
  ·exact rfl
  ·exact rfl
  have e:(aN ((ws blk i).getD (i-2) 0) (17:Int).toNat ^^^ aN ((ws blk i).getD (i-2) 0) (19:Int).toNat ^^^ (ws blk i).getD (i-2) 0 >>> 10)+(ws blk i).getD (i-7) 0+(aN ((ws blk i).getD (i-15) 0) (7:Int).toNat ^^^ aN ((ws blk i).getD (i-15) 0) (18:Int).toNat ^^^ (ws blk i).getD (i-15) 0 >>> 3)+(ws blk i).getD (i-16) 0=wM blk i:=by
   rw[wM,if_neg om,WH];show Ea ((ws blk i).getD (i-2) 0)+(ws blk i).getD (i-7) 0+Ec ((ws blk i).getD (i-15) 0)+(ws blk i).getD (i-16) 0=_
   ac_rfl
  repeat' (first|refine I7 ?_|refine I8 ?_|refine W ?_|refine D6 (λ_=>?_)|intro _)
  rw[e,hn];exact o9 (i+1) zc slr om om
 obtain rfl:i=64:=by omega
 repeat' (first|refine I7 ?_|refine I8 ?_|refine W ?_|refine D6 (λ_=>?_)|intro _)
 rename_i g11;refine y9 (α:=Nat) (λi=>[(3,ptr g3),(4,ptr g4),(6,ptr g6),(7,ptr g7),(11,ptr g11),(12,int i)])
  (λi=>[.var g11 438 (iW (nH blk x i)),.var g7 459 (.agg 64 (wA blk 64)),.var g6 438 (iW ⟨0,0,0,0,0,0,0,0⟩),.var g4 438 (iW x),.var g3 395 wJ]) (λi=>i<=64) (λi=>64-i) 0 zc slr (Nat.zero_le _) ?_
 intro i hi;repeat' first|refine Wz ?_|intro
 refine w9 (λhlt=>?_) (λhlt=>?_)
 ·have hk:i<mR.length:=by
   have:mR.length=64:=rfl;omega
  have hr:nH blk x (i+1)=UQ mR[i] ((ws blk 64).getD i 0) (nH blk x i):=by rw[nH,a1t,gdk hk]
  generalize nH blk x i=y at *;repeat' (first|refine I7 ?_|refine I8 ?_|refine W ?_|refine D6 (λ_=>?_)|intro _)
  apply zf [];exact zi;intro _ _;refine Y2 (l:=mR) (f:=λx=>.lit (Q6 x)) i hk ?_;exact j3 (p9 rfl rfl);repeat' (first|refine I7 ?_|refine I8 ?_|refine W ?_|refine D6 (λ_=>?_)|intro _)
  apply zf [];exact zi;intro _ _;refine O1 i ?_;exact j3 (p9 rfl rfl);apply zf [1];exact zi
  ·intro _ _;refine bV (j:=i) (ps:=wA blk 64) (oC blk 64 i om) ?_;exact j3 (p9 rfl rfl)
  repeat' (first|refine I7 ?_|refine I8 ?_|refine W ?_|refine D6 (λ_=>?_)|intro _)
  refine o9 (i+1) zc ?_ om om;dsimp only;rw[hr];exact List.Sublist.refl _
 obtain rfl:i=64:=by omega
 have hcm:yH x blk=x.add (nH blk x 64):=rfl;rw[hcm];generalize nH blk x 64=y at *;repeat' (first|refine I7 ?_|refine I8 ?_|refine W ?_|refine D6 (λ_=>?_)|intro _)
 refine y9 (α:=Nat) (λi=>[(4,ptr g4),(6,ptr g6),(11,ptr g11),(19,int i)])
  (λi=>[.var g11 438 (iW y),.var g6 438 (iW ⟨0,0,0,0,0,0,0,0⟩),.var g4 438 (.agg 8 ((pW x y i).map λx=>.lit (Q6 x)))]) (λi=>i<=8) (λi=>8-i) 0 zc zd (Nat.zero_le _) ?_
 intro i hi;repeat' first|refine Wz ?_|intro
 refine w9 (λhlt=>?_) (λhlt=>?_)
 ·have hi8:i<8:=om
  repeat' (first|refine I7 ?_|refine I8 ?_|refine W ?_|refine D6 (λ_=>?_)|intro _)
  apply zf [];exact zi;intro _ _;refine O1 i ?_;exact j3 (p9 rfl rfl);apply zf [2];exact zi
  ·intro _ _;refine bV (j:=i) (ps:=(pW x y i).map λx=>.lit (Q6 x)) (u:=X5 (x.words.getD i 0)) (by rw[List.getElem?_map,Xj x y i hi8];rfl) ?_;exact j3 (p9 rfl rfl)
  repeat' (first|refine I7 ?_|refine I8 ?_|refine W ?_|refine D6 (λ_=>?_)|intro _)
  apply zf [];exact zi;intro _ _;refine O1 i ?_;exact j3 (p9 rfl rfl);apply zf [0];exact zi;intro _ _;refine bV (j:=i) (ps:=y.words.map λx=>.lit (Q6 x)) (u:=X5 (y.words.getD i 0)) (by rw[List.getElem?_map,MP y i hi8];rfl) ?_;exact j3 (p9 rfl rfl);repeat' (first|refine I7 ?_|refine I8 ?_|refine W ?_|refine D6 (λ_=>?_)|intro _)
  apply zf [];exact zi;intro _ _;refine O1 i ?_;exact j3 (p9 rfl rfl);apply dH [2];exact rfl;exact rfl;kernel_rfl
  ·intro _ _;refine kD (j:=i) (ps:=(pW x y i).map λx=>.lit (Q6 x)) (by simp[Xi x y i hi];omega) ?_;exact j3 (dX rfl)
  ·exact rfl
  ·exact rfl
  repeat' (first|refine I7 ?_|refine I8 ?_|refine W ?_|refine D6 (λ_=>?_)|intro _)
  rw[b0y x y i hi8];exact o9 (i+1) zc slr om om
 obtain rfl:i=8:=by omega
 repeat' (first|refine I7 ?_|refine I8 ?_|refine W ?_|refine D6 (λ_=>?_)|intro _)
 exact j6 rfl⟩
end

section
variable {b:Bool}{s:Bs}{g:Nat}{c most:Int}
instance a1q :AnsM prog GL 158 g [] 238 (F7 s b) True (int (U7 s b)) (F7 s b):=⟨λ_=>by
 refine ze func158 ntmps158 λ_ hs=>?_;cases b
 ·cases s with
  | nil=>
   repeat' first|refine Yz ?_|intro
   exact l9 _ ⟨rfl,rfl⟩ slr
  | cons c s=>
   repeat' first|refine Yz ?_|intro
   exact l9 _ ⟨rfl,rfl⟩ slr
 repeat' first|refine Yz ?_|intro
 exact l9 _ ⟨rfl,rfl⟩ slr⟩
instance a1o :AnsM prog GL 259 g [.lit (.int .u8 c),int most] 238 (F7 s b) (s.length<=4611686018427387904) (str (G9 c most s b)) (F7 (o8 c most s b) (F4 c most s b)):=⟨λhl=>by
 refine ze func259 ntmps259 λ_ hs=>?_;cases b;rotate_left
 ·repeat' first|refine Yz ?_|intro
  refine l9 [.var g 238 (F7 s true)] ⟨?_,?_⟩ slr
  ·rw[G9,zL];rfl
  rw[o8,F4,zL];rfl
 rcases s with _|⟨s0,_|⟨s1,_|⟨s2,_|⟨s3,r⟩⟩⟩⟩
 ·repeat' first|refine Yz ?_|intro
  exact l9 [.var g 238 (F7 [] true)] ⟨rfl,rfl⟩ slr
 ·repeat' first|refine Yz ?_|intro
  exact l9 [.var g 238 (F7 [s0] true)] ⟨rfl,rfl⟩ slr
 ·repeat' first|refine Yz ?_|intro
  exact l9 [.var g 238 (F7 [s0,s1] true)] ⟨rfl,rfl⟩ slr
 ·repeat' first|refine Yz ?_|intro
  exact l9 [.var g 238 (F7 [s0,s1,s2] true)] ⟨rfl,rfl⟩ slr
 have hlen:(s0::s1::s2::s3::r).length=r.length+4:=rfl;have q1:=s1.toNat_lt;have q2:=s2.toNat_lt;have q3:=s3.toNat_lt;by_cases hc:(s0.toNat:Int)=c
 rotate_left
 ·have e:bE c most false (s0::s1::s2::s3::r)=none:=by rw[bE,if_neg (λh=>hc h.2.1)]
  repeat' first|refine Yz ?_|intro
  refine l9 [.var g 238 (F7 (s0::s1::s2::s3::r) true)] ⟨?_,?_⟩ slr
  ·rw[G9,e];rfl
  rw[o8,F4,e];rfl
 have hv:(s1.toNat:Int)*65536+(s2.toNat:Int)*256+(s3.toNat:Int)=(eO s1 s2 s3:Nat):=by simp[eO];omega
 have hlt:=PW s1 s2 s3;have hct:bE c most false (s0::s1::s2::s3::r)=if (eO s1 s2 s3:Int)<=most/\eO s1 s2 s3<=r.length then some (r.take (eO s1 s2 s3),r.drop (eO s1 s2 s3)) else none:=by
  rw[bE];simp[hc]
 repeat' first|refine Yz ?_|intro
 rw[hv];generalize eO s1 s2 s3=n at *;by_cases h1:(n:Int)<=most
 rotate_left
 ·have e:bE c most false (s0::s1::s2::s3::r)=none:=by rw[hct,if_neg (λh=>h1 h.1)]
  repeat' first|refine Yz ?_|intro
  refine l9 [.var g 238 (F7 (s0::s1::s2::s3::r) true)] ⟨?_,?_⟩ slr
  ·rw[G9,e];rfl
  rw[o8,F4,e];rfl
 by_cases h2:n<=r.length
 rotate_left
 ·have e:bE c most false (s0::s1::s2::s3::r)=none:=by rw[hct,if_neg (λh=>h2 h.2)]
  repeat' first|refine Yz ?_|intro
  refine l9 [.var g 238 (F7 (s0::s1::s2::s3::r) true)] ⟨?_,?_⟩ slr
  ·rw[G9,e];rfl
  rw[o8,F4,e];rfl
 have e:bE c most false (s0::s1::s2::s3::r)=some (r.take n,r.drop n):=by rw[hct,if_pos ⟨h1,h2⟩]
 repeat' first|refine Yz ?_|intro
 refine Z4 4 (4+n) ?_;repeat' first|refine Yz ?_|intro
 refine Z4 (4+n) (r.length+4) ?_;repeat' first|refine Yz ?_|intro
 refine l9 [.var g 238 (F7 (r.drop n) false)] ⟨?_,?_⟩ ?_
 ·rw[G9,e];simp[D8,Nat.add_comm]
 ·rw[o8,F4,e];rfl
 have e2:List.drop (4+n) (List.take (r.length+4) (s0::s1::s2::s3::r))=r.drop n:=by
  rw[List.take_of_length_le sm,Nat.add_comm 4 n];simp
 rw[e2];exact List.Sublist.refl _⟩
instance b5g :AnsM prog GL 258 g [.lit (.int .u8 c)] 238 (F7 s b) (s.length<=4611686018427387904) (.lit (.int .u64 (uZ c s b))) (F7 (o8 c 8 s b) (qO c s b)):=⟨λhl=>by
 refine ze func258 ntmps258 λ_ hs=>?_;repeat' first|refine Yz ?_|intro
 have hx:=(xJ c 8 s b).2 dc;rw[qO,JK];generalize G9 c 8 s b=x at *;refine y9 (α:=Nat) (λi=>[(0,ptr g),(5,str x),(6,.lit (.int .u64 (numOf (x.take i):Nat))),(7,int i)]) (λ_=>[.var g 238 (F7 (o8 c 8 s b) (F4 c 8 s b))])
  (λi=>i<=x.length) (λi=>x.length-i) 0 zc slr om ?_
 intro i hi;repeat' first|refine Yz ?_|intro
 refine w9 (λhlt=>?_) (λhlt=>?_)
 ·have hil:i<x.length:=om
  have h1:=Kk hil;have h2:=x[i].toNat_lt;have h3:=KE (l:=x.take (i+1)) (by simp;omega);repeat' first|refine Yz ?_|intro
  refine vY i ?_ (List.getElem?_eq_getElem hil);repeat' first|refine Yz ?_|intro
  refine o9 (i+1) ⟨rfl,rfl,?_,rfl,trivial⟩ slr hil om;rw[h1];rfl
 obtain rfl:i=x.length:=by omega
 rw[List.take_length];have hdg:=a7q (l:=x) om;have hns:=KE (l:=x) om;repeat' first|refine Yz ?_|intro
 cases h0:mQ x
 ·have e:=hdg.2 h0;refine w9 (λh=>absurd e h) (λ_=>?_);repeat' first|refine Yz ?_|intro
  refine l9 [.var g 238 (F7 (o8 c 8 s b) (F4 c 8 s b))] ⟨rfl,?_⟩ slr;simp
 refine w9 (λ_=>?_) (λh=>?_);rotate_left
 ·exact absurd (hdg.1 (Classical.not_not.1 h)) (by rw[h0];simp)
 repeat' first|refine Yz ?_|intro
 refine l9 [.var g 238 (F7 (o8 c 8 s b) true)] ⟨rfl,?_⟩ slr;simp⟩
theorem a1w (h:qO c s b=true):uZ c s b=0:=by
 rw[JK];unfold qO at h;rcases Bool.or_eq_true_iff.1 h with h|h
 ·have:G9 c 8 s b=[]:=by
   unfold F4 at h;rw[G9,Option.isNone_iff_eq_none.1 h];rfl
  rw[this];rfl
 rw[if_pos h]
instance a1p :AnsM prog GL 156 g [.lit (.int .u8 c),int most] 238 (F7 s b) (s.length<=4611686018427387904/\0<=most/\most<=9223372036854775807) (int (L9 c most s b)) (F7 (o8 c 8 s b) (N9 c most s b)):=⟨λhp=>by
 obtain⟨hl,h0,h1⟩:=hp;refine ze func156 ntmps156 λ_ hs=>?_;repeat' first|refine Yz ?_|intro
 have hx:=Gf c s b;have hz:=a1w (c:=c) (s:=s) (b:=b);rw[L9,N9];generalize uZ c s b=n at *;by_cases h:most<(n:Int)
 ·rw[if_pos h,dT h];repeat' first|refine Yz ?_|intro
  refine l9 [.var g 238 (F7 (o8 c 8 s b) true)] ⟨rfl,?_⟩ slr;simp
 rw[if_neg h,dZ h];cases hb:qO c s b
 ·repeat' first|refine Yz ?_|intro
  refine l9 [.var g 238 (F7 (o8 c 8 s b) false)] ⟨rfl,?_⟩ slr;simp
 obtain rfl:=hz hb;repeat' first|refine Yz ?_|intro
 refine l9 [.var g 238 (F7 (o8 c 8 s b) true)] ⟨rfl,?_⟩ slr;simp⟩
theorem UL :G9 c 16777216 s b=G9 c 16777215 s b/\o8 c 16777216 s b=o8 c 16777215 s b/\F4 c 16777216 s b=F4 c 16777215 s b:=by
 have h:bE c 16777216 b s=bE c 16777215 b s:=by
  unfold bE;split
  ·rename_i s0 s1 s2 s3 r;have:=PW s1 s2 s3;by_cases h1:b=false/\(s0.toNat:Int)=c/\eO s1 s2 s3<=r.length
   ·rw[if_pos ⟨h1.1,h1.2.1,om,h1.2.2⟩,if_pos ⟨h1.1,h1.2.1,om,h1.2.2⟩]
   rw[if_neg (λh=>h1 ⟨h.1,h.2.1,h.2.2.2⟩),if_neg (λh=>h1 ⟨h.1,h.2.1,h.2.2.2⟩)]
  rfl
 unfold G9 o8 F4;rw[h];exact⟨rfl,rfl,rfl⟩
instance b5i {many:Int}:AnsM prog GL 157 g [.lit (.int .u8 c),int many,int most] 238 (F7 s b) (s.length<=1000000000) (.sl 1 ((jJ c many most s b).map str) none) (F7 (o8 c 16777215 s b) (eF c many most s b)):=⟨λhl=>by
 refine ze func157 ntmps157 λ_ hs=>?_;repeat' first|refine Yz ?_|intro
 rw[UL.1,UL.2.1,UL.2.2];have hx:=(xJ c 16777215 s b).1;have hx2:=(aH c 16777215 s b).1;rw[jJ,eF];generalize G9 c 16777215 s b=x at *;generalize o8 c 16777215 s b=s1 at *;generalize F4 c 16777215 s b=b1 at *;generalize hX:DW c most x=X at *;rename_i gr;refine Y4 10 (Imp.nil (k:=1)) ?_;refine P6 (λok w h=>h.full 9 1 none 0) ?_;refine SN (α:=Value × Bs) (λq=>[(0,ptr g),(2,int many),(9,ptr gr),(10,.sl 1 (X.1.map str) (some q.1))]) (λq=>[.tail 9 1 q.1,.var gr 238 (F7 q.2 X.2),.var g 238 (F7 s1 b1)]) ?_ (λq=>?_);rotate_left
 ·rcases q with⟨v,s2⟩
  dsimp only;have hml:(X.1.map str).length=X.1.length:=llm _;unfold BZ yL;cases hq:X.2
  ·by_cases hm:many<(X.1.length:Int)
   ·rw[dT hm,Bool.or_true,Bool.or_true,if_pos rfl];repeat' first|refine Yz ?_|intro
    refine U6 (.sl 1 [] none) [.var g 238 (F7 s1 true)] ?_ ⟨rfl,rfl⟩ ?_
    focus
     exact Imp.nilN
    exact u7
   rw[dZ hm,Bool.or_false,Bool.or_false];cases b1
   ·repeat' first|refine Yz ?_|intro
    refine U6 (.sl 1 (X.1.map str) none) [.var g 238 (F7 s1 false)] ?_ ⟨rfl,rfl⟩ ?_
    focus
     exact Imp.sl
    exact u7
   repeat' first|refine Yz ?_|intro
   refine U6 (.sl 1 [] none) [.var g 238 (F7 s1 true)] ?_ ⟨rfl,rfl⟩ ?_
   focus
    exact Imp.nilN
   exact u7
  rw[Bool.true_or,Bool.or_true,if_pos rfl];repeat' first|refine Yz ?_|intro
  refine U6 (.sl 1 [] none) [.var g 238 (F7 s1 true)] ?_ ⟨rfl,rfl⟩ ?_
  focus
   exact Imp.nilN
  exact u7
 refine y9 (α:=List Bs × Value × Bs × Bool × Nat) (λq=>[(0,ptr g),(1,.lit (.int .u8 c)),(2,int many),(3,int most),(9,ptr gr),(10,.sl 1 (q.1.map str) (some q.2.1))])
   (λq=>[.tail 9 1 q.2.1,.var gr 238 (F7 q.2.2.1 q.2.2.2.1),.var g 238 (F7 s1 b1)])
   (λq=>X=(q.1++(jA c most q.2.2.2.2 q.2.2.1 q.2.2.2.1).1,(jA c most q.2.2.2.2 q.2.2.1 q.2.2.2.1).2)/\(q.2.2.2.1=false->q.2.2.1.length<q.2.2.2.2)/\(q.2.2.2.1=false->q.1.length+q.2.2.1.length<=x.length)/\q.1.length<=x.length) (λq=>q.2.2.2.2) ([],.slice none 0 0,x,false,x.length+1) zc slr ⟨hX.symm,λ_=>by dsimp only;omega,λ_=>by simp,sm⟩ ?_
 rintro⟨acc,v,s2,b2,f⟩ ⟨e1,e2,e3,e4⟩;dsimp only at e1 e2 e3 e4 ⊢;cases b2;rotate_left
 ·rw[Ur,List.append_nil] at e1;subst e1;cases s2 with
  | nil=>
   repeat' first|refine Yz ?_|intro
   refine aZ (v,[]) zc ?_;exact u7
  | cons a s2=>
   repeat' first|refine Yz ?_|intro
   refine aZ (v,a::s2) zc ?_;exact u7
 have e2:=e2 rfl;have e3:=e3 rfl;rcases f with _|f
 ·omega
 cases s2 with
 | nil=>
  rw[Af,List.append_nil] at e1;subst e1;repeat' first|refine Yz ?_|intro
  refine aZ (v,[]) zc ?_;exact u7
 | cons a s2=>
  rw[Uq] at e1;have hle:=(aH c most (a::s2) false).1;have hlt:=UM (c:=c) (most:=most) (s:=a::s2) (b:=false);have hl3:(a::s2).length=s2.length+1:=rfl;have hma:(acc.map str).length=acc.length:=llm _;repeat' first|refine Yz ?_|intro
  refine H7 (λv'=>?_);repeat' first|refine Yz ?_|intro
  refine o9 (acc++[G9 c most (a::s2) false],v',o8 c most (a::s2) false,F4 c most (a::s2) false,f) ⟨rfl,rfl,rfl,rfl,rfl,?_,trivial⟩ slr ⟨by simpa using e1,λh=>?_,λh=>?_,?_⟩ (by dsimp only;omega)
  ·rw[List.map_append];rfl
  ·have:=hlt h;dsimp only;omega
  ·have:=hlt h;simp only[List.length_append,List.length_cons,List.length_nil] at *;omega
  simp only[List.length_append,List.length_cons,List.length_nil] at *;omega⟩
end
end Go.Proofs.Z
