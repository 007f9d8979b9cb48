/- . -/
import Derived.Test.YtjhnaegpchadiaaGreatDoorN20
namespace Go.Proofs.YtjhnaegpchadiaaGreatDoor
open Go Go.RowKit Tw Av Go.Proofs.Tryz
theorem EB {c:Int}{s:Bs}{b:Bool}:rD c s b=if kH (D8 c 8 s b)=true then 0 else numOf (D8 c 8 s b):=rfl
theorem ZC (c:Int)(s:Bs)(b:Bool):rD c s b<18446744073709551616:=by
 rw[EB];have h:=(uI c 8 s b).2 dc;have:=EU (l:=D8 c 8 s b) om;split <;> omega
instance rdNum {g:Nat}{s:Bs}{b:Bool}{c:Int}:AnsM prog GL 212 g [.lit (.int .u8 c)] 286 (C8 s b) (s.length<=4611686018427387904) (.lit (.int .u64 (rD c s b))) (C8 (j5 c 8 s b) (nC c s b)):=⟨fun hl=>by
 refine qF func212 ntmps212 fun _ hs=>?_;repeat' first|refine Yz ?_|intro _
 have hx:=(uI c 8 s b).2 dc;rw[nC,EB];generalize D8 c 8 s b=x at *;refine y5 (α:=Nat) (fun i=>[(0,ptr g),(5,str x),(6,.lit (.int .u64 (numOf (x.take i):Nat))),(12,int x.length),(13,int i)]) (fun _=>[.var g 286 (C8 (j5 c 8 s b) (z8 c 8 s b))])
  (fun i=>i<=x.length) (fun i=>x.length-i) 0 ⟨rfl,rfl,rfl,rfl,rfl,trivial⟩ slr om ?_
 intro i hi;repeat' first|refine Yz ?_|intro _
 refine o8 (fun hlt=>?_) (fun hlt=>?_)
 ·have hil:i<x.length:=om
  have h1:=Cj hil;have h2:=x[i].toNat_lt;have h3:=EU (l:=x.take (i+1)) (by simp;omega);repeat' first|refine Yz ?_|intro _
  refine sH i ?_ (List.getElem?_eq_getElem hil);repeat' first|refine Yz ?_|intro _
  refine o6 (i+1) ⟨rfl,rfl,?_,rfl,rfl,trivial⟩ slr hil om;rw[h1];rfl
 ·obtain rfl:i=x.length:=by omega
  rw[List.take_length];cases x with
  | nil=>
   repeat' first|refine Yz ?_|intro _
   refine l9 [.var g 286 (C8 (j5 c 8 s b) (z8 c 8 s b))] ⟨rfl,?_⟩ slr;simp[kH]
  | cons a x=>
   have ha:kH (a::x)=decide ((a.toNat:Int)=0):=by
    rw[KW];refine decide_eq_decide.2 ⟨fun h=>by rw[h];rfl,fun h=>UInt8.toNat.inj (by simpa using h)⟩
   rw[ha];by_cases h0:(a.toNat:Int)=0
   ·rw[dT h0];repeat' first|refine Yz ?_|intro _
    refine l9 [.var g 286 (C8 (j5 c 8 s b) true)] ⟨rfl,?_⟩ slr;simp
   ·rw[dZ h0];repeat' first|refine Yz ?_|intro _
    refine l9 [.var g 286 (C8 (j5 c 8 s b) (z8 c 8 s b))] ⟨rfl,?_⟩ slr;simp⟩
instance Uc {g:Nat}{s:Bs}{b:Bool}{c most:Int}:AnsM prog GL 109 g [.lit (.int .u8 c),int most] 286 (C8 s b) (s.length<=4611686018427387904/\0<=most/\most<=9223372036854775807) (int (K3 c most s b)) (C8 (j5 c 8 s b) (K8 c most s b)):=⟨fun hp=>by
 obtain⟨hl,h0,h1⟩:=hp;refine qF func109 ntmps109 fun _ hs=>?_;repeat' first|refine Yz ?_|intro _
 have hx:=ZC c s b;rw[K3,K8];generalize rD c s b=n at *;by_cases h:most<(n:Int)
 ·rw[if_pos h,dT h];repeat' first|refine Yz ?_|intro _
  refine l9 [.var g 286 (C8 (j5 c 8 s b) true)] ⟨rfl,?_⟩ slr;simp
 ·rw[if_neg h,dZ h];repeat' first|refine Yz ?_|intro _
  refine l9 [.var g 286 (C8 (j5 c 8 s b) (nC c s b))] ⟨rfl,?_⟩ slr;simp⟩

theorem a4v {go gi gr gl gm:Nat}{acc:List Bs}{v:Value}{s:Bs}{b:Bool}{c most:Int}(hl:s.length<=4611686018427387904)(hn:acc.length<=1000000000):Av.Spec prog GL 214 [ptr go,ptr gi,ptr gl,ptr gm]
  [.tail 9 1 v,.var go 106 (.sl 1 (acc.map str) (some v)),.var gi 201 (ptr gr),.var gr 286 (C8 s b),.var gm 3 (int most),.var gl 5 (.lit (.int .u8 c))]
  fun u m=>∃ v',u=j3 (!z8 c most s b)/\m=[.tail 9 1 v',.var go 106 (.sl 1 ((acc++[D8 c most s b]).map str) (some v')),.var gi 201 (ptr gr),.var gr 286 (C8 (j5 c most s b) (z8 c most s b)),.var gm 3 (int most),.var gl 5 (.lit (.int .u8 c))]:=by
 refine qF func214 ntmps214 fun _ hs=>?_;repeat' first|refine Yz ?_|intro _
 apply Y8 [0];exact rfl;exact rfl;exact rfl;kernel_rfl;intro _ _;refine I1 (fun v'=>?_);refine j4 (R6 [.tail 9 1 v'] [] rfl rfl lpr rfl ?_);repeat' first|refine Yz ?_|intro _
 refine l9 _ ⟨v',rfl,rfl⟩ ?_;rw[List.map_append];exact List.Sublist.refl _
theorem UU {c most:Int}{f:Nat}:fE c most (f+1) [] false=([],false):=by rw[fE,if_pos (.inr rfl)]
theorem Kz {c most:Int}:∀ {f:Nat} {s:Bs},fE c most f s true=([],true)
 | 0,_=>rfl
 | f+1,s=>by rw[fE,if_pos (.inl rfl)]
theorem Ky {c most:Int}{f:Nat}{a:UInt8}{s:Bs}:fE c most (f+1) (a::s) false=(D8 c most (a::s) false::(fE c most f (j5 c most (a::s) false) (z8 c most (a::s) false)).1,(fE c most f (j5 c most (a::s) false) (z8 c most (a::s) false)).2):=by rw[fE,if_neg sm]
instance b0y {g:Nat}{s:Bs}{b:Bool}{c many most:Int}:AnsM prog GL 110 g [.lit (.int .u8 c),int many,int most] 286 (C8 s b) (s.length<=1000000000) (.sl 1 ((fO c many most s b).map str) none) (C8 (j5 c 16777215 s b) (bH c many most s b)):=⟨fun hl=>by
 refine qF func110 ntmps110 fun _ hs=>?_;repeat' first|refine Yz ?_|intro _
 have hx:=(uI c 16777215 s b).1;have hx2:=(X5 c 16777215 s b).1;rw[fO,bH];generalize D8 c 16777215 s b=x at *;generalize j5 c 16777215 s b=s1 at *;generalize z8 c 16777215 s b=b1 at *;refine I8 (args:=[str x]) [] _ (by rw[hs];exact sP) (fun u m1 hh=>?_) lpr;obtain⟨gr,rfl,rfl⟩:=hh;repeat' first|refine Yz ?_|intro _
 rename_i gl gm gi go;refine gH (vs:=[.pointer (some ⟨go,0,none⟩),.pointer (some ⟨gi,0,none⟩),.pointer (some ⟨gl,0,none⟩),.pointer (some ⟨gm,0,none⟩)]) ?_;repeat' first|refine Yz ?_|intro _
 generalize hX:yR c most x=X at *;refine gK (g:=go) (v':=.sl 1 [] (some (.slice none 0 0))) ImpC.nilT ?_;refine Q6 (fun ok w h=>h.full 9 1 none 0) ?_;refine VR (α:=Value) (fun _=>[(0,ptr g),(2,int many),(10,ptr go)]) (fun v=>[.tail 9 1 v,.var go 106 (.sl 1 (X.1.map str) (some v)),.var g 286 (C8 s1 (b1 || X.2))]) ?_ (fun v=>?_)
 focus
  refine y5 (α:=List Bs × Value × Bs × Nat) (fun _=>[(0,ptr g),(2,int many),(9,ptr gi),(10,ptr go),(11,F4 214 [.pointer (some ⟨go,0,none⟩),.pointer (some ⟨gi,0,none⟩),.pointer (some ⟨gl,0,none⟩),.pointer (some ⟨gm,0,none⟩)])])
   (fun q=>[.tail 9 1 q.2.1,.var go 106 (.sl 1 (q.1.map str) (some q.2.1)),.var gi 201 (ptr gr),.var gr 286 (C8 q.2.2.1 false),.var gm 3 (int most),.var gl 5 (.lit (.int .u8 c)),.var g 286 (C8 s1 b1)])
   (fun q=>X=(q.1++(fE c most q.2.2.2 q.2.2.1 false).1,(fE c most q.2.2.2 q.2.2.1 false).2)/\q.2.2.1.length<q.2.2.2/\q.1.length+q.2.2.1.length<=x.length) (fun q=>q.2.2.2) ([],.slice none 0 0,x,x.length+1) ⟨rfl,rfl,rfl,rfl,rfl,trivial⟩ slr ⟨hX.symm,by dsimp only;omega,sm⟩ ?_
  rintro⟨acc,v,s2,f⟩ ⟨e1,e2,e3⟩;dsimp only at e1 e2 e3 ⊢;rcases f with _|f
  focus
   omega
  cases s2 with
  | nil=>
   rw[UU,List.append_nil] at e1;subst e1;repeat' first|refine Yz ?_|intro _
   refine X7 v ⟨rfl,rfl,rfl,trivial⟩ ?_;rw[Bool.or_false];exact x9
  | cons a s2=>
   have hl2:(if false=true then 0 else (a::s2).length)=s2.length+1:=rfl;repeat' first|refine Yz ?_|intro _
   refine nT (args:=[]) (cs:=[.pointer (some ⟨go,0,none⟩),.pointer (some ⟨gi,0,none⟩),.pointer (some ⟨gl,0,none⟩),.pointer (some ⟨gm,0,none⟩)])
    [.tail 9 1 v,.var go 106 (.sl 1 (acc.map str) (some v)),.var gi 201 (ptr gr),.var gr 286 (C8 (a::s2) false),.var gm 3 (int most),.var gl 5 (.lit (.int .u8 c))] [.var g 286 (C8 s1 b1)]
    (by rw[hs];exact a4v om om) (fun u m1 hh=>?_) lpr
   obtain⟨v',rfl,rfl⟩:=hh;rw[Ky] at e1;have hle:=(X5 c most (a::s2) false).1;have hlt:=OQ (c:=c) (most:=most) (s:=a::s2) (b:=false);generalize D8 c most (a::s2) false=x' at *;generalize j5 c most (a::s2) false=s3 at *;cases hb:z8 c most (a::s2) false
   ·have hlt:=hlt hb;rw[hb] at e1;repeat' first|refine Yz ?_|intro _
    refine o6 (acc++[x'],v',s3,f) ⟨rfl,rfl,rfl,rfl,rfl,trivial⟩ slr ⟨?_,by dsimp only;omega,by simp only[List.length_append,List.length_cons,List.length_nil];omega⟩ (by dsimp only;omega);simpa using e1
   ·rw[hb,Kz] at e1;subst e1;repeat' first|refine Yz ?_|intro _
    refine X7 v' ⟨rfl,rfl,rfl,trivial⟩ ?_;rw[Bool.or_true];exact x9
 focus
  have hml:(X.1.map str).length=X.1.length:=llm _;unfold xM vH;by_cases hm:many<(X.1.length:Int)
  ·rw[dT hm,Bool.or_true,Bool.or_true,if_pos rfl];repeat' first|refine Yz ?_|intro _
   refine Y6 (.sl 1 [] none) [.var g 286 (C8 s1 true)] ?_ ⟨rfl,rfl⟩ ?_
   focus
    exact Imp.nilN
   exact x9
  ·rw[dZ hm,Bool.or_false];cases hb:(b1 || X.2)
   ·repeat' first|refine Yz ?_|intro _
    refine Y6 (.sl 1 (X.1.map str) none) [.var g 286 (C8 s1 false)] ?_ ⟨rfl,rfl⟩ ?_
    focus
     exact Imp.sl
    exact x9
   ·repeat' first|refine Yz ?_|intro _
    refine Y6 (.sl 1 [] none) [.var g 286 (C8 s1 true)] ?_ ⟨rfl,rfl⟩ ?_
    focus
     exact Imp.nilN
    repeat (first|exact List.nil_sublist _|exact List.Sublist.refl _|apply List.Sublist.cons_cons|apply List.Sublist.cons)⟩

instance b2i {c:Int}{s:Bs}:Ans prog GL 55 [.lit (.int .u8 c),str s] True (str (j6 c s)):=⟨fun _=>by
 refine qF func55 ntmps55 fun _ hs=>?_;repeat' first|refine Wz ?_|intro _
 refine o8 (fun hl=>?_) (fun hl=>?_)
 ·repeat' first|refine Wz ?_|intro _
  have hb:(s.take 16777215).drop 0=s.take bU:=rfl;have hlen:(s.take bU).length=16777215:=by simp[bU];omega
  refine U7 0 16777215 ?_;rw[hb];repeat' first|refine Wz ?_|intro _
  refine d9 ?_;exact congrArg str (NR c s _ rfl)
 ·repeat' first|refine Wz ?_|intro _
  refine d9 ?_;have hb:s.take bU=s:=List.take_of_length_le (by simp[bU];omega);have:=NR c s s.length (by rw[hb]);rw[hb] at this;exact congrArg str this⟩

instance b2L {n:Nat}:Ans prog GL 295 [.lit (.int .u64 n)] (n<18446744073709551616) (str (Tw.digits n)):=⟨fun hn=>by
 refine qF func295 ntmps295 fun _ hs=>?_;repeat' first|refine Wz ?_|intro _
 refine y5 (α:=Nat × Nat × Bs) (fun q=>[(0,.lit (.int .u64 q.2.1)),(3,str q.2.2)]) (fun _=>[]) (fun q=>q.2.1<256 ^ q.1/\q.2.2.length+q.1<=8/\X0 q.1 q.2.1++q.2.2=Tw.digits n) (fun q=>q.1) (8,n,[]) ⟨rfl,rfl,trivial⟩ slr ⟨by simpa using hn,sm,by simp[Tw.digits]⟩ ?_;rintro⟨f,k,s⟩ ⟨g1,g2,g3⟩;dsimp only at g1 g2 g3 ⊢;repeat' first|refine Wz ?_|intro _
 refine o8 (fun hlt=>?_) (fun hlt=>?_)
 ·obtain⟨f,rfl⟩:∃ f',f=f'+1:=⟨f-1,by
   rcases Nat.eq_zero_or_pos f with h|h
   ·subst h;simp at g1;omega
   ·omega⟩
  have h0:k≠0:=om
  rw[X0,if_neg h0,laa] at g3;have hk:k<18446744073709551616:=by
   have:256 ^ (f+1)<=256 ^ 8:=Nat.pow_le_pow_right om om;omega
  repeat' first|refine Wz ?_|intro _
  rw[CX k];refine VH (h2:=by intro c _ _;rw[IntKind.wrap_u64];omega) ?_;repeat' first|refine Wz ?_|intro _
  have hq:(k:Int) / 256=((k / 256:Nat):Int):=om
  rw[hq];exact o6 (f,k / 256,[UInt8.ofNat k]++s) ⟨rfl,rfl,trivial⟩ slr ⟨by simp only;rw[Nat.pow_succ] at g1;omega,by simp only[List.length_append,List.length_singleton];omega,by simpa using g3⟩ (Nat.lt_succ_self f)
 ·have h0:k=0:=om
  subst h0;have:X0 f 0=[]:=by cases f <;> simp[X0]
  rw[this,List.nil_append] at g3;subst g3;repeat' first|refine Wz ?_|intro _
  exact d9 rfl⟩
instance Gq {c:Int}{n:Nat}:Ans prog GL 198 [.lit (.int .u8 c),.lit (.int .u64 n)] (n<18446744073709551616) (str (j6 c (Tw.digits n))):=⟨fun hn=>by
 refine qF func198 ntmps198 fun _ hs=>?_;repeat' first|refine Wz ?_|intro _
 exact d9 rfl⟩
instance b2C {c:Int}{n:Int}:Ans prog GL 87 [.lit (.int .u8 c),int n] (n<=9223372036854775807) (str (p9 c n)):=⟨fun hn=>by
 refine qF func87 ntmps87 fun _ hs=>?_;repeat' first|refine Wz ?_|intro _
 refine o8 (fun hlt=>?_) (fun hlt=>?_)
 ·repeat' first|refine Wz ?_|intro _
  refine VI (show (0:Nat)<18446744073709551616 by omega) ?_ (hc:=Gq (n:=0));repeat' first|refine Wz ?_|intro _
  refine d9 ?_;have:n.toNat=0:=by omega
  rw[p9,NS,this];rfl
 ·repeat' first|refine Wz ?_|intro _
  obtain⟨k,rfl⟩:∃ k:Nat,n=k:=⟨n.toNat,om⟩;refine VI (show k<18446744073709551616 by omega) ?_ (hc:=Gq (n:=k));repeat' first|refine Wz ?_|intro _
  exact d9 rfl⟩
instance b1A {x:W32}{c:Int}:Ans prog GL 359 [S9 x,.lit (.int .u64 c)] (0<c/\c<32) (S9 (X8 x c.toNat)):=⟨fun hc=>by
 obtain⟨n,rfl⟩:∃ n:Nat,c=n:=⟨c.toNat,om⟩;refine qF func359 ntmps359 fun _ hs=>?_;repeat' first|refine Wz ?_|intro _
 refine BP n ?_;repeat' first|refine Wz ?_|intro _
 refine yV ?_;have hw:IntKind.u64.wrap ((32:Int)-(n:Int))=((32-n:Nat):Int):=by rw[IntKind.wrap_u64];omega
 rw[hw];repeat' first|refine Wz ?_|intro _
 refine BQ (32-n) ?_;repeat' (first|refine F8 ?_|refine G6 ?_|refine W ?_|refine y7 (fun _=>?_)|intro _)
 exact d9 rfl⟩
instance b2G {h:Hsh}:Ans prog GL 85 [hA h] True (str h.l):=⟨fun _=>by
 refine qF func85 ntmps85 fun _ hs=>?_;repeat' first|refine Wz ?_|intro _
 rename_i g;have hlen:=h.len;refine aT 3 (Imp.nil (k:=1)) ?_;refine Q6 (fun ok w h=>h.full 5 1 none 0) ?_;refine y5 (α:=Nat × Value) (fun q=>[(1,ptr g),(3,.sl 1 ((h.l.take q.1).map w9) (some q.2)),(4,int q.1)]) (fun q=>[.tail 5 1 q.2,.var g 34 (.agg 32 (h.l.map w9))]) (fun q=>q.1<=32) (fun q=>32-q.1) (0,.slice none 0 0) ⟨rfl,rfl,rfl,trivial⟩ slr (Nat.zero_le _) ?_;rintro⟨i,v⟩ g1;dsimp only at g1 ⊢;repeat' first|refine Wz ?_|intro _
 refine o8 (fun hlt=>?_) (fun hlt=>?_)
 ·have hlt':i<h.l.length:=om
  repeat' first|refine Wz ?_|intro _
  refine O4 i ?_;repeat' first|refine Wz ?_|intro _
  refine a5g i hlt' ?_;repeat' first|refine Wz ?_|intro _
  refine I1 (fun v'=>?_);repeat' first|refine Wz ?_|intro _
  have e:(h.l.take i).map w9++[w9 h.l[i]]=(h.l.take (i+1)).map w9:=by rw[List.take_succ_eq_append_getElem hlt',List.map_append];rfl
  rw[e];exact o6 (i+1,v') ⟨rfl,rfl,rfl,trivial⟩ slr (by simp only;omega) (by simp only;omega)
 ·repeat' first|refine Wz ?_|intro _
  rw[List.take_of_length_le om];repeat' first|refine Wz ?_|intro _
  exact d9 rfl⟩

abbrev sU:AV:=.agg 2 [.sl 1 (h0.words.map fun x=>.lit (O1 x)) none,.sl 1 (kJ.map fun x=>.lit (O1 x)) none]
theorem gd {l:Bs}{i:Nat}(h:i<l.length):l.getD i 0=l[i]:=by simp[List.getD,h]
theorem gdk {l:List W32}{i:Nat}(h:i<l.length):l.getD i 0=l[i]:=by simp[List.getD,h]
theorem a3p (e f g:W32):(e &&& f) ^^^ (~~~ e &&& g)=g ^^^ e &&& (f ^^^ g):=by
 apply BitVec.eq_of_getLsbD_eq;intro i hi;simp only[BitVec.getLsbD_xor,BitVec.getLsbD_and,BitVec.getLsbD_not,hi,decide_true,Bool.true_and];cases e.getLsbD i <;> cases f.getLsbD i <;> cases g.getLsbD i <;> rfl
theorem Yf (a b c:W32):(a &&& b) ^^^ (a &&& c) ^^^ (b &&& c)=a &&& b ||| c &&& (a ||| b):=by
 apply BitVec.eq_of_getLsbD_eq;intro i hi;simp only[BitVec.getLsbD_xor,BitVec.getLsbD_and,BitVec.getLsbD_or];cases a.getLsbD i <;> cases b.getLsbD i <;> cases c.getLsbD i <;> rfl
def OV (k w:W32)(y:H8):H8:=
 ⟨y.h+(X8 y.e 6 ^^^ X8 y.e 11 ^^^ X8 y.e 25)+((y.e &&& y.f) ^^^ (~~~ y.e &&& y.g))+k+w+((X8 y.a 2 ^^^ X8 y.a 13 ^^^ X8 y.a 22)+((y.a &&& y.b) ^^^ (y.a &&& y.c) ^^^ (y.b &&& y.c))),y.a,y.b,y.c,
  y.d+(y.h+(X8 y.e 6 ^^^ X8 y.e 11 ^^^ X8 y.e 25)+((y.e &&& y.f) ^^^ (~~~ y.e &&& y.g))+k+w),y.e,y.f,y.g⟩
theorem Td (k w:W32)(y:H8):round k w y=OV k w y:=by
 unfold round OV;simp only[a3p,Yf,BitVec.add_assoc]
theorem a6f (x y:H8)(i:Nat)(h:i<8):((mJ x y i).map fun x=>AV.lit (O1 x)).set i (S9 (x.words.getD i 0+y.words.getD i 0))=(mJ x y (i+1)).map fun x=>AV.lit (O1 x):=by
 rw[<- Nv x y i h,List.map_set]
attribute [local irreducible] Av.Obl
set_option maxHeartbeats 4000000 in
instance b2T {x:H8}{blk:Bs}{id:Option Value}:Ans prog GL 294 [sU,fB x,.sl 1 (blk.map w9) id] (blk.length=64) (fB (vC x blk)):=⟨fun hbl=>by
 refine qF func294 ntmps294 fun _ hs=>?_;repeat' first|refine Wz ?_|intro _
 rename_i g3 g4 g6 g7;refine gK (g:=g7) (v':=.agg 64 (wA blk 0)) (fun ok w cs h=>h) ?_;refine y5 (α:=Nat) (fun i=>[(2,.sl 1 (blk.map w9) id),(3,ptr g3),(4,ptr g4),(6,ptr g6),(7,ptr g7),(8,int i)])
   (fun i=>[.var g7 410 (.agg 64 (wA blk i)),.var g6 349 (fB ⟨0,0,0,0,0,0,0,0⟩),.var g4 349 (fB x),.var g3 267 sU]) (fun i=>i<=64) (fun i=>64-i) 0 ⟨rfl,rfl,rfl,rfl,rfl,rfl,trivial⟩ slr (Nat.zero_le _) ?_
 intro i hi;repeat' first|refine Wz ?_|intro _
 refine o8 (fun hlt=>?_) (fun hlt=>?_)
 ·repeat' first|refine Wz ?_|intro _
  have hn:=NI blk i om;have hl64:=IA blk i om;refine o8 (fun h16=>?_) (fun h16=>?_)
  ·repeat' (first|refine F8 ?_|refine G6 ?_|refine W ?_|refine y7 (fun _=>?_)|intro _)
   apply x8 [];exact rfl;exact rfl;kernel_rfl;intro _ _;refine Z5 (l:=blk) (f:=w9) (4*i) om ?_;exact j4 (o9 rfl rfl);repeat' (first|refine F8 ?_|refine G6 ?_|refine W ?_|refine y7 (fun _=>?_)|intro _)
   apply x8 [];exact rfl;exact rfl;kernel_rfl;intro _ _;refine Z5 (l:=blk) (f:=w9) (4*i+1) om ?_;exact j4 (o9 rfl rfl);repeat' (first|refine F8 ?_|refine G6 ?_|refine W ?_|refine y7 (fun _=>?_)|intro _)
   apply x8 [];exact rfl;exact rfl;kernel_rfl;intro _ _;refine Z5 (l:=blk) (f:=w9) (4*i+2) om ?_;exact j4 (o9 rfl rfl);repeat' (first|refine F8 ?_|refine G6 ?_|refine W ?_|refine y7 (fun _=>?_)|intro _)
   apply x8 [];exact rfl;exact rfl;kernel_rfl;intro _ _;refine Z5 (l:=blk) (f:=w9) (4*i+3) om ?_;exact j4 (o9 rfl rfl);repeat' (first|refine F8 ?_|refine G6 ?_|refine W ?_|refine y7 (fun _=>?_)|intro _)
   apply x8 [];exact rfl;exact rfl;kernel_rfl;intro _ _;refine O4 i ?_;exact j4 (o9 rfl rfl);apply bP [0];exact rfl;exact rfl;kernel_rfl
   ·intro _ _;refine kM (j:=i) (ps:=wA blk i) om ?_;exact j4 (bW rfl)
   ·exact rfl
   ·exact rfl
   have e:sG blk[4*i] <<< 24 ||| sG blk[4*i+1] <<< 16 ||| sG blk[4*i+2] <<< 8 ||| sG blk[4*i+3]=tH blk i:=by
    rw[tH,if_pos om,yZ,gd,gd,gd,gd]
   rw[e,hn];repeat' first|refine Wz ?_|intro _
   refine o6 (i+1) ⟨rfl,rfl,rfl,rfl,rfl,rfl,trivial⟩ slr om om
  ·repeat' (first|refine F8 ?_|refine G6 ?_|refine W ?_|refine y7 (fun _=>?_)|intro _)
   apply x8 [];exact rfl;exact rfl;kernel_rfl;intro _ _;refine O4 (i-15) ?_;exact j4 (o9 rfl rfl);repeat' (first|refine F8 ?_|refine G6 ?_|refine W ?_|refine y7 (fun _=>?_)|intro _)
   apply x8 [0];exact rfl;exact rfl;kernel_rfl;intro _ _;refine dP (j:=i-15) (ps:=wA blk i) (lG blk i (i-15) om) ?_;exact j4 (o9 rfl rfl);repeat' (first|refine F8 ?_|refine G6 ?_|refine W ?_|refine y7 (fun _=>?_)|intro _)
   apply x8 [];exact rfl;exact rfl;kernel_rfl;intro _ _;refine O4 (i-15) ?_;exact j4 (o9 rfl rfl);repeat' (first|refine F8 ?_|refine G6 ?_|refine W ?_|refine y7 (fun _=>?_)|intro _)
   apply x8 [0];exact rfl;exact rfl;kernel_rfl;intro _ _;refine dP (j:=i-15) (ps:=wA blk i) (lG blk i (i-15) om) ?_;exact j4 (o9 rfl rfl);repeat' (first|refine F8 ?_|refine G6 ?_|refine W ?_|refine y7 (fun _=>?_)|intro _)
   apply x8 [];exact rfl;exact rfl;kernel_rfl;intro _ _;refine O4 (i-15) ?_;exact j4 (o9 rfl rfl);repeat' (first|refine F8 ?_|refine G6 ?_|refine W ?_|refine y7 (fun _=>?_)|intro _)
   apply x8 [0];exact rfl;exact rfl;kernel_rfl;intro _ _;refine dP (j:=i-15) (ps:=wA blk i) (lG blk i (i-15) om) ?_;exact j4 (o9 rfl rfl);repeat' (first|refine F8 ?_|refine G6 ?_|refine W ?_|refine y7 (fun _=>?_)|intro _)
   apply x8 [];exact rfl;exact rfl;kernel_rfl;intro _ _;refine O4 (i-2) ?_;exact j4 (o9 rfl rfl);repeat' (first|refine F8 ?_|refine G6 ?_|refine W ?_|refine y7 (fun _=>?_)|intro _)
   apply x8 [0];exact rfl;exact rfl;kernel_rfl;intro _ _;refine dP (j:=i-2) (ps:=wA blk i) (lG blk i (i-2) om) ?_;exact j4 (o9 rfl rfl);repeat' (first|refine F8 ?_|refine G6 ?_|refine W ?_|refine y7 (fun _=>?_)|intro _)
   apply x8 [];exact rfl;exact rfl;kernel_rfl;intro _ _;refine O4 (i-2) ?_;exact j4 (o9 rfl rfl);repeat' (first|refine F8 ?_|refine G6 ?_|refine W ?_|refine y7 (fun _=>?_)|intro _)
   apply x8 [0];exact rfl;exact rfl;kernel_rfl;intro _ _;refine dP (j:=i-2) (ps:=wA blk i) (lG blk i (i-2) om) ?_;exact j4 (o9 rfl rfl);repeat' (first|refine F8 ?_|refine G6 ?_|refine W ?_|refine y7 (fun _=>?_)|intro _)
   apply x8 [];exact rfl;exact rfl;kernel_rfl;intro _ _;refine O4 (i-2) ?_;exact j4 (o9 rfl rfl);repeat' (first|refine F8 ?_|refine G6 ?_|refine W ?_|refine y7 (fun _=>?_)|intro _)
   apply x8 [0];exact rfl;exact rfl;kernel_rfl;intro _ _;refine dP (j:=i-2) (ps:=wA blk i) (lG blk i (i-2) om) ?_;exact j4 (o9 rfl rfl);repeat' (first|refine F8 ?_|refine G6 ?_|refine W ?_|refine y7 (fun _=>?_)|intro _)
   apply x8 [];exact rfl;exact rfl;kernel_rfl;intro _ _;refine O4 (i-7) ?_;exact j4 (o9 rfl rfl);repeat' (first|refine F8 ?_|refine G6 ?_|refine W ?_|refine y7 (fun _=>?_)|intro _)
   apply x8 [0];exact rfl;exact rfl;kernel_rfl;intro _ _;refine dP (j:=i-7) (ps:=wA blk i) (lG blk i (i-7) om) ?_;exact j4 (o9 rfl rfl);repeat' (first|refine F8 ?_|refine G6 ?_|refine W ?_|refine y7 (fun _=>?_)|intro _)
   apply x8 [];exact rfl;exact rfl;kernel_rfl;intro _ _;refine O4 (i-16) ?_;exact j4 (o9 rfl rfl);repeat' (first|refine F8 ?_|refine G6 ?_|refine W ?_|refine y7 (fun _=>?_)|intro _)
   apply x8 [0];exact rfl;exact rfl;kernel_rfl;intro _ _;refine dP (j:=i-16) (ps:=wA blk i) (lG blk i (i-16) om) ?_;exact j4 (o9 rfl rfl);repeat' (first|refine F8 ?_|refine G6 ?_|refine W ?_|refine y7 (fun _=>?_)|intro _)
   apply x8 [];exact rfl;exact rfl;kernel_rfl;intro _ _;refine O4 i ?_;exact j4 (o9 rfl rfl);apply bP [0];exact rfl;exact rfl;kernel_rfl
   ·intro _ _;refine kM (j:=i) (ps:=wA blk i) om ?_;exact j4 (bW rfl)
   ·exact rfl
   ·exact rfl
   have e:(X8 ((ws blk i).getD (i-2) 0) (17:Int).toNat ^^^ X8 ((ws blk i).getD (i-2) 0) (19:Int).toNat ^^^ (ws blk i).getD (i-2) 0 >>> 10)+(ws blk i).getD (i-7) 0+(X8 ((ws blk i).getD (i-15) 0) (7:Int).toNat ^^^ X8 ((ws blk i).getD (i-15) 0) (18:Int).toNat ^^^ (ws blk i).getD (i-15) 0 >>> 3)+(ws blk i).getD (i-16) 0=tH blk i:=by
    rw[tH,if_neg om,QU];show XN ((ws blk i).getD (i-2) 0)+(ws blk i).getD (i-7) 0+XO ((ws blk i).getD (i-15) 0)+(ws blk i).getD (i-16) 0=_
    ac_rfl
   repeat' (first|refine F8 ?_|refine G6 ?_|refine W ?_|refine y7 (fun _=>?_)|intro _)
   rw[e,hn];exact o6 (i+1) ⟨rfl,rfl,rfl,rfl,rfl,rfl,trivial⟩ slr om om
 ·obtain rfl:i=64:=by omega
  repeat' (first|refine F8 ?_|refine G6 ?_|refine W ?_|refine y7 (fun _=>?_)|intro _)
  rename_i g11;refine y5 (α:=Nat) (fun i=>[(3,ptr g3),(4,ptr g4),(6,ptr g6),(7,ptr g7),(11,ptr g11),(12,int i)])
   (fun i=>[.var g11 349 (fB (kR blk x i)),.var g7 410 (.agg 64 (wA blk 64)),.var g6 349 (fB ⟨0,0,0,0,0,0,0,0⟩),.var g4 349 (fB x),.var g3 267 sU]) (fun i=>i<=64) (fun i=>64-i) 0 ⟨rfl,rfl,rfl,rfl,rfl,rfl,trivial⟩ slr (Nat.zero_le _) ?_
  intro i hi;repeat' first|refine Wz ?_|intro _
  refine o8 (fun hlt=>?_) (fun hlt=>?_)
  ·have hk:i<kJ.length:=by
    have:kJ.length=64:=rfl;omega
   have hr:kR blk x (i+1)=OV kJ[i] ((ws blk 64).getD i 0) (kR blk x i):=by rw[kR,Td,gdk hk]
   generalize kR blk x i=y at *;repeat' (first|refine F8 ?_|refine G6 ?_|refine W ?_|refine y7 (fun _=>?_)|intro _)
   apply x8 [];exact rfl;exact rfl;kernel_rfl;intro _ _;refine Z5 (l:=kJ) (f:=fun x=>.lit (O1 x)) i hk ?_;exact j4 (o9 rfl rfl);repeat' (first|refine F8 ?_|refine G6 ?_|refine W ?_|refine y7 (fun _=>?_)|intro _)
   apply x8 [];exact rfl;exact rfl;kernel_rfl;intro _ _;refine O4 i ?_;exact j4 (o9 rfl rfl);apply x8 [1];exact rfl;exact rfl;kernel_rfl
   ·intro _ _;refine dP (j:=i) (ps:=wA blk 64) (lG blk 64 i om) ?_;exact j4 (o9 rfl rfl)
   repeat' (first|refine F8 ?_|refine G6 ?_|refine W ?_|refine y7 (fun _=>?_)|intro _)
   refine o6 (i+1) ⟨rfl,rfl,rfl,rfl,rfl,rfl,trivial⟩ ?_ om om;dsimp only;rw[hr];exact List.Sublist.refl _
  ·obtain rfl:i=64:=by omega
   have hcm:vC x blk=x.add (kR blk x 64):=rfl;rw[hcm];generalize kR blk x 64=y at *;repeat' (first|refine F8 ?_|refine G6 ?_|refine W ?_|refine y7 (fun _=>?_)|intro _)
   refine y5 (α:=Nat) (fun i=>[(4,ptr g4),(6,ptr g6),(11,ptr g11),(19,int i)])
    (fun i=>[.var g11 349 (fB y),.var g6 349 (fB ⟨0,0,0,0,0,0,0,0⟩),.var g4 349 (.agg 8 ((mJ x y i).map fun x=>.lit (O1 x)))]) (fun i=>i<=8) (fun i=>8-i) 0 ⟨rfl,rfl,rfl,rfl,trivial⟩ (by repeat (first|exact List.nil_sublist _|exact List.Sublist.refl _|apply List.Sublist.cons_cons|apply List.Sublist.cons)) (Nat.zero_le _) ?_
   intro i hi;repeat' first|refine Wz ?_|intro _
   refine o8 (fun hlt=>?_) (fun hlt=>?_)
   ·have hi8:i<8:=om
    repeat' (first|refine F8 ?_|refine G6 ?_|refine W ?_|refine y7 (fun _=>?_)|intro _)
    apply x8 [];exact rfl;exact rfl;kernel_rfl;intro _ _;refine O4 i ?_;exact j4 (o9 rfl rfl);apply x8 [2];exact rfl;exact rfl;kernel_rfl
    ·intro _ _;refine dP (j:=i) (ps:=(mJ x y i).map fun x=>.lit (O1 x)) (u:=S9 (x.words.getD i 0)) (by rw[List.getElem?_map,Ny x y i hi8];rfl) ?_;exact j4 (o9 rfl rfl)
    repeat' (first|refine F8 ?_|refine G6 ?_|refine W ?_|refine y7 (fun _=>?_)|intro _)
    apply x8 [];exact rfl;exact rfl;kernel_rfl;intro _ _;refine O4 i ?_;exact j4 (o9 rfl rfl);apply x8 [0];exact rfl;exact rfl;kernel_rfl;intro _ _;refine dP (j:=i) (ps:=y.words.map fun x=>.lit (O1 x)) (u:=S9 (y.words.getD i 0)) (by rw[List.getElem?_map,HZ y i hi8];rfl) ?_;exact j4 (o9 rfl rfl);repeat' (first|refine F8 ?_|refine G6 ?_|refine W ?_|refine y7 (fun _=>?_)|intro _)
    apply x8 [];exact rfl;exact rfl;kernel_rfl;intro _ _;refine O4 i ?_;exact j4 (o9 rfl rfl);apply bP [2];exact rfl;exact rfl;kernel_rfl
    ·intro _ _;refine kM (j:=i) (ps:=(mJ x y i).map fun x=>.lit (O1 x)) (by simp[Nw x y i hi];omega) ?_;exact j4 (bW rfl)
    ·exact rfl
    ·exact rfl
    repeat' (first|refine F8 ?_|refine G6 ?_|refine W ?_|refine y7 (fun _=>?_)|intro _)
    rw[a6f x y i hi8];exact o6 (i+1) ⟨rfl,rfl,rfl,rfl,trivial⟩ slr om om
   ·obtain rfl:i=8:=by omega
    repeat' (first|refine F8 ?_|refine G6 ?_|refine W ?_|refine y7 (fun _=>?_)|intro _)
    exact d9 rfl⟩
end Go.Proofs.YtjhnaegpchadiaaGreatDoor

namespace Go.Proofs.YtjhnaegpchadiaaGreatDoor
open Go Go.RowKit Tw Av Go.Proofs.Tryz
instance Sz {g:Nat}{s:Bs}{b:Bool}:AnsM prog GL 129 g [] 220 (C8 s b) True (int (R3 s b)) (C8 s b):=⟨fun _=>by
 refine qF func129 ntmps129 fun _ hs=>?_;cases b
 ·cases s with
  | nil=>
   repeat' first|refine Yz ?_|intro _
   exact l9 _ ⟨rfl,rfl⟩ slr
  | cons c s=>
   repeat' first|refine Yz ?_|intro _
   exact l9 _ ⟨rfl,rfl⟩ slr
 ·repeat' first|refine Yz ?_|intro _
  exact l9 _ ⟨rfl,rfl⟩ slr⟩
instance Sw {g:Nat}{s:Bs}{b:Bool}{c most:Int}:AnsM prog GL 227 g [.lit (.int .u8 c),int most] 220 (C8 s b) (s.length<=4611686018427387904) (str (D8 c most s b)) (C8 (j5 c most s b) (z8 c most s b)):=⟨fun hl=>by
 refine qF func227 ntmps227 fun _ hs=>?_;cases b;rotate_left
 ·repeat' first|refine Yz ?_|intro _
  refine l9 [.var g 220 (C8 s true)] ⟨?_,?_⟩ slr
  ·rw[D8,wC];rfl
  ·rw[j5,z8,wC];rfl
 rcases s with _|⟨s0,_|⟨s1,_|⟨s2,_|⟨s3,r⟩⟩⟩⟩
 ·repeat' first|refine Yz ?_|intro _
  exact l9 [.var g 220 (C8 [] true)] ⟨rfl,rfl⟩ slr
 ·repeat' first|refine Yz ?_|intro _
  exact l9 [.var g 220 (C8 [s0] true)] ⟨rfl,rfl⟩ slr
 ·repeat' first|refine Yz ?_|intro _
  exact l9 [.var g 220 (C8 [s0,s1] true)] ⟨rfl,rfl⟩ slr
 ·repeat' first|refine Yz ?_|intro _
  exact l9 [.var g 220 (C8 [s0,s1,s2] true)] ⟨rfl,rfl⟩ slr
 have hlen:(s0::s1::s2::s3::r).length=r.length+4:=rfl;have q1:=s1.toNat_lt;have q2:=s2.toNat_lt;have q3:=s3.toNat_lt;by_cases hc:(s0.toNat:Int)=c
 rotate_left
 ·have e:Z0 c most false (s0::s1::s2::s3::r)=none:=by rw[Z0,if_neg (fun h=>hc h.2.1)]
  repeat' first|refine Yz ?_|intro _
  refine l9 [.var g 220 (C8 (s0::s1::s2::s3::r) true)] ⟨?_,?_⟩ slr
  ·rw[D8,e];rfl
  ·rw[j5,z8,e];rfl
 have hv:(s1.toNat:Int)*65536+(s2.toNat:Int)*256+(s3.toNat:Int)=(bJ s1 s2 s3:Nat):=by simp[bJ];omega
 have hlt:=KV s1 s2 s3;have hct:Z0 c most false (s0::s1::s2::s3::r)=if (bJ s1 s2 s3:Int)<=most/\bJ s1 s2 s3<=r.length then some (r.take (bJ s1 s2 s3),r.drop (bJ s1 s2 s3)) else none:=by
  rw[Z0];simp[hc]
 repeat' first|refine Yz ?_|intro _
 rw[hv];generalize bJ s1 s2 s3=n at *;by_cases h1:(n:Int)<=most
 rotate_left
 ·have e:Z0 c most false (s0::s1::s2::s3::r)=none:=by rw[hct,if_neg (fun h=>h1 h.1)]
  repeat' first|refine Yz ?_|intro _
  refine l9 [.var g 220 (C8 (s0::s1::s2::s3::r) true)] ⟨?_,?_⟩ slr
  ·rw[D8,e];rfl
  ·rw[j5,z8,e];rfl
 by_cases h2:n<=r.length
 rotate_left
 ·have e:Z0 c most false (s0::s1::s2::s3::r)=none:=by rw[hct,if_neg (fun h=>h2 h.2)]
  repeat' first|refine Yz ?_|intro _
  refine l9 [.var g 220 (C8 (s0::s1::s2::s3::r) true)] ⟨?_,?_⟩ slr
  ·rw[D8,e];rfl
  ·rw[j5,z8,e];rfl
 have e:Z0 c most false (s0::s1::s2::s3::r)=some (r.take n,r.drop n):=by rw[hct,if_pos ⟨h1,h2⟩]
 repeat' first|refine Yz ?_|intro _
 refine U7 4 (4+n) ?_;repeat' first|refine Yz ?_|intro _
 refine U7 (4+n) (r.length+4) ?_;repeat' first|refine Yz ?_|intro _
 refine l9 [.var g 220 (C8 (r.drop n) false)] ⟨?_,?_⟩ ?_
 ·rw[D8,e];simp[J6,Nat.add_comm]
 ·rw[j5,z8,e];rfl
 ·have e2:List.drop (4+n) (List.take (r.length+4) (s0::s1::s2::s3::r))=r.drop n:=by
   rw[List.take_of_length_le sm,Nat.add_comm 4 n];simp
  rw[e2];exact List.Sublist.refl _⟩
instance b0p {g:Nat}{s:Bs}{b:Bool}{c:Int}:AnsM prog GL 226 g [.lit (.int .u8 c)] 220 (C8 s b) (s.length<=4611686018427387904) (.lit (.int .u64 (rD c s b))) (C8 (j5 c 8 s b) (nC c s b)):=⟨fun hl=>by
 refine qF func226 ntmps226 fun _ hs=>?_;repeat' first|refine Yz ?_|intro _
 have hx:=(uI c 8 s b).2 dc;rw[nC,EB];generalize D8 c 8 s b=x at *;refine y5 (α:=Nat) (fun i=>[(0,ptr g),(5,str x),(6,.lit (.int .u64 (numOf (x.take i):Nat))),(7,int i)]) (fun _=>[.var g 220 (C8 (j5 c 8 s b) (z8 c 8 s b))])
  (fun i=>i<=x.length) (fun i=>x.length-i) 0 ⟨rfl,rfl,rfl,rfl,trivial⟩ slr om ?_
 intro i hi;repeat' first|refine Yz ?_|intro _
 refine o8 (fun hlt=>?_) (fun hlt=>?_)
 ·have hil:i<x.length:=om
  have h1:=Cj hil;have h2:=x[i].toNat_lt;have h3:=EU (l:=x.take (i+1)) (by simp;omega);repeat' first|refine Yz ?_|intro _
  refine sH i ?_ (List.getElem?_eq_getElem hil);repeat' first|refine Yz ?_|intro _
  refine o6 (i+1) ⟨rfl,rfl,?_,rfl,trivial⟩ slr hil om;rw[h1];rfl
 ·obtain rfl:i=x.length:=by omega
  rw[List.take_length];have hdg:=a2Q (l:=x) om;have hns:=EU (l:=x) om;repeat' first|refine Yz ?_|intro _
  cases h0:kH x
  ·have e:=hdg.2 h0;refine o8 (fun h=>absurd e h) (fun _=>?_);repeat' first|refine Yz ?_|intro _
   refine l9 [.var g 220 (C8 (j5 c 8 s b) (z8 c 8 s b))] ⟨rfl,?_⟩ slr;simp
  ·refine o8 (fun _=>?_) (fun h=>?_);rotate_left
   ·exact absurd (hdg.1 (Classical.not_not.1 h)) (by rw[h0];simp)
   repeat' first|refine Yz ?_|intro _
   refine l9 [.var g 220 (C8 (j5 c 8 s b) true)] ⟨rfl,?_⟩ slr;simp⟩
theorem Tg {c:Int}{s:Bs}{b:Bool}(h:nC c s b=true):rD c s b=0:=by
 rw[EB];unfold nC at h;rcases Bool.or_eq_true_iff.1 h with h|h
 ·have:D8 c 8 s b=[]:=by
   unfold z8 at h;rw[D8,Option.isNone_iff_eq_none.1 h];rfl
  rw[this];rfl
 ·rw[if_pos h]
instance Sy {g:Nat}{s:Bs}{b:Bool}{c most:Int}:AnsM prog GL 127 g [.lit (.int .u8 c),int most] 220 (C8 s b) (s.length<=4611686018427387904/\0<=most/\most<=9223372036854775807) (int (K3 c most s b)) (C8 (j5 c 8 s b) (K8 c most s b)):=⟨fun hp=>by
 obtain⟨hl,h0,h1⟩:=hp;refine qF func127 ntmps127 fun _ hs=>?_;repeat' first|refine Yz ?_|intro _
 have hx:=ZC c s b;have hz:=Tg (c:=c) (s:=s) (b:=b);rw[K3,K8];generalize rD c s b=n at *;by_cases h:most<(n:Int)
 ·rw[if_pos h,dT h];repeat' first|refine Yz ?_|intro _
  refine l9 [.var g 220 (C8 (j5 c 8 s b) true)] ⟨rfl,?_⟩ slr;simp
 ·rw[if_neg h,dZ h];cases hb:nC c s b
  ·repeat' first|refine Yz ?_|intro _
   refine l9 [.var g 220 (C8 (j5 c 8 s b) false)] ⟨rfl,?_⟩ slr;simp
  ·obtain rfl:=hz hb;repeat' first|refine Yz ?_|intro _
   refine l9 [.var g 220 (C8 (j5 c 8 s b) true)] ⟨rfl,?_⟩ slr;simp⟩
theorem OP {c:Int}{s:Bs}{b:Bool}:D8 c 16777216 s b=D8 c 16777215 s b/\j5 c 16777216 s b=j5 c 16777215 s b/\z8 c 16777216 s b=z8 c 16777215 s b:=by
 have h:Z0 c 16777216 b s=Z0 c 16777215 b s:=by
  unfold Z0;split
  ·rename_i s0 s1 s2 s3 r;have:=KV s1 s2 s3;by_cases h1:b=false/\(s0.toNat:Int)=c/\bJ s1 s2 s3<=r.length
   ·rw[if_pos ⟨h1.1,h1.2.1,om,h1.2.2⟩,if_pos ⟨h1.1,h1.2.1,om,h1.2.2⟩]
   ·rw[if_neg (fun h=>h1 ⟨h.1,h.2.1,h.2.2.2⟩),if_neg (fun h=>h1 ⟨h.1,h.2.1,h.2.2.2⟩)]
  ·rfl
 unfold D8 j5 z8;rw[h];exact⟨rfl,rfl,rfl⟩
instance b0r {g:Nat}{s:Bs}{b:Bool}{c many most:Int}:AnsM prog GL 128 g [.lit (.int .u8 c),int many,int most] 220 (C8 s b) (s.length<=1000000000) (.sl 1 ((fO c many most s b).map str) none) (C8 (j5 c 16777215 s b) (bH c many most s b)):=⟨fun hl=>by
 refine qF func128 ntmps128 fun _ hs=>?_;repeat' first|refine Yz ?_|intro _
 rw[OP.1,OP.2.1,OP.2.2];have hx:=(uI c 16777215 s b).1;have hx2:=(X5 c 16777215 s b).1;rw[fO,bH];generalize D8 c 16777215 s b=x at *;generalize j5 c 16777215 s b=s1 at *;generalize z8 c 16777215 s b=b1 at *;generalize hX:yR c most x=X at *;rename_i gr;refine aT 10 (Imp.nil (k:=1)) ?_;refine Q6 (fun ok w h=>h.full 9 1 none 0) ?_;refine VR (α:=Value × Bs) (fun q=>[(0,ptr g),(2,int many),(9,ptr gr),(10,.sl 1 (X.1.map str) (some q.1))]) (fun q=>[.tail 9 1 q.1,.var gr 220 (C8 q.2 X.2),.var g 220 (C8 s1 b1)]) ?_ (fun q=>?_);rotate_left
 ·rcases q with⟨v,s2⟩
  dsimp only;have hml:(X.1.map str).length=X.1.length:=llm _;unfold xM vH;cases hq:X.2
  ·by_cases hm:many<(X.1.length:Int)
   ·rw[dT hm,Bool.or_true,Bool.or_true,if_pos rfl];repeat' first|refine Yz ?_|intro _
    refine Y6 (.sl 1 [] none) [.var g 220 (C8 s1 true)] ?_ ⟨rfl,rfl⟩ ?_
    focus
     exact Imp.nilN
    exact x9
   ·rw[dZ hm,Bool.or_false,Bool.or_false];cases b1
    ·repeat' first|refine Yz ?_|intro _
     refine Y6 (.sl 1 (X.1.map str) none) [.var g 220 (C8 s1 false)] ?_ ⟨rfl,rfl⟩ ?_
     focus
      exact Imp.sl
     exact x9
    ·repeat' first|refine Yz ?_|intro _
     refine Y6 (.sl 1 [] none) [.var g 220 (C8 s1 true)] ?_ ⟨rfl,rfl⟩ ?_
     focus
      exact Imp.nilN
     exact x9
  ·rw[Bool.true_or,Bool.or_true,if_pos rfl];repeat' first|refine Yz ?_|intro _
   refine Y6 (.sl 1 [] none) [.var g 220 (C8 s1 true)] ?_ ⟨rfl,rfl⟩ ?_
   focus
    exact Imp.nilN
   exact x9
 refine y5 (α:=List Bs × Value × Bs × Bool × Nat) (fun q=>[(0,ptr g),(1,.lit (.int .u8 c)),(2,int many),(3,int most),(9,ptr gr),(10,.sl 1 (q.1.map str) (some q.2.1))])
   (fun q=>[.tail 9 1 q.2.1,.var gr 220 (C8 q.2.2.1 q.2.2.2.1),.var g 220 (C8 s1 b1)])
   (fun q=>X=(q.1++(fE c most q.2.2.2.2 q.2.2.1 q.2.2.2.1).1,(fE c most q.2.2.2.2 q.2.2.1 q.2.2.2.1).2)/\(q.2.2.2.1=false->q.2.2.1.length<q.2.2.2.2)/\(q.2.2.2.1=false->q.1.length+q.2.2.1.length<=x.length)/\q.1.length<=x.length) (fun q=>q.2.2.2.2) ([],.slice none 0 0,x,false,x.length+1) ⟨rfl,rfl,rfl,rfl,rfl,rfl,trivial⟩ slr ⟨hX.symm,fun _=>by dsimp only;omega,fun _=>by simp,sm⟩ ?_
 rintro⟨acc,v,s2,b2,f⟩ ⟨e1,e2,e3,e4⟩;dsimp only at e1 e2 e3 e4 ⊢;cases b2;rotate_left
 ·rw[Kz,List.append_nil] at e1;subst e1;cases s2 with
  | nil=>
   repeat' first|refine Yz ?_|intro _
   refine X7 (v,[]) ⟨rfl,rfl,rfl,rfl,trivial⟩ ?_;exact x9
  | cons a s2=>
   repeat' first|refine Yz ?_|intro _
   refine X7 (v,a::s2) ⟨rfl,rfl,rfl,rfl,trivial⟩ ?_;exact x9
 have e2:=e2 rfl;have e3:=e3 rfl;rcases f with _|f
 ·omega
 cases s2 with
 | nil=>
  rw[UU,List.append_nil] at e1;subst e1;repeat' first|refine Yz ?_|intro _
  refine X7 (v,[]) ⟨rfl,rfl,rfl,rfl,trivial⟩ ?_;exact x9
 | cons a s2=>
  rw[Ky] at e1;have hle:=(X5 c most (a::s2) false).1;have hlt:=OQ (c:=c) (most:=most) (s:=a::s2) (b:=false);have hl3:(a::s2).length=s2.length+1:=rfl;have hma:(acc.map str).length=acc.length:=llm _;repeat' first|refine Yz ?_|intro _
  refine I1 (fun v'=>?_);repeat' first|refine Yz ?_|intro _
  refine o6 (acc++[D8 c most (a::s2) false],v',j5 c most (a::s2) false,z8 c most (a::s2) false,f) ⟨rfl,rfl,rfl,rfl,rfl,?_,trivial⟩ slr ⟨by simpa using e1,fun h=>?_,fun h=>?_,?_⟩ (by dsimp only;omega)
  ·rw[List.map_append];rfl
  ·have:=hlt h;dsimp only;omega
  ·have:=hlt h;simp only[List.length_append,List.length_cons,List.length_nil] at *;omega
  ·simp only[List.length_append,List.length_cons,List.length_nil] at *;omega⟩
end Go.Proofs.YtjhnaegpchadiaaGreatDoor
