/- . -/
import Derived.Test.YtcdbijbhifhkeaaGreatDoorV25
set_option maxHeartbeats 64000000
namespace Go.Proofs.Z
open Go Go.RowKit Tw Av Go.Proofs.Tryz
section
variable {p:List Hsh}{i m:Int}{root:Hsh}
theorem a7u {x:Ent}(h:uW root x ⟨i,m,p⟩=true):0<=i/\i<m/\m<=2000:=by
 unfold uW zM at h;dsimp only at h;split at h
 ·simp at h
 omega
theorem a2I {n:Int}{bes:Bs->Bool}{x:Ent}{l:List Ent}(h:vO root n bes (x::l) ⟨i,m,p⟩=true):0<=i/\i<n/\n<=2000:=by
 rcases l with _|⟨y,l⟩
 ·simp only[vO,Bool.and_eq_true,decide_eq_true_eq] at h;obtain⟨_,h1,h2⟩:=h;have:=a7u h2;omega
 simp[vO] at h
instance c0W {k:Bs}{n i2 m2:Int}{l r:List Ent}{q:List Hsh}{xs ys zs ws:List AV}[hx:Ents xs l][hy:Ents ys r][hz:Hshs zs p][hw:Hshs ws q] :
  Ans prog GL 342 [hA root,str k,.agg 9 [int n,.sl 2 xs none,.sl 2 ys none,.agg 3 [int i,int m,.sl 32 zs none],.agg 3 [int i2,int m2,.sl 32 ws none]]] (m<=9223372036854775807/\m2<=9223372036854775807) (d9 (JY root k ⟨n,l,r,⟨i,m,p⟩,⟨i2,m2,q⟩⟩)):=⟨λhpre=>by
 obtain⟨c1,c2⟩:=hpre;have h1:=hx.out;have h2:=hy.out;have h3:=hz.out;have h4:=hw.out;subst h1 h2 h3 h4;refine zc func342 ntmps342 λ_ hs=>?_;repeat' first|refine Vz ?_|intro
 rename_i g3 g4 g5;refine Z0 (vs:=[.pointer (some ⟨g5,0,none⟩),.pointer (some ⟨g3,0,none⟩)]) ?_;repeat' first|refine Vz ?_|intro
 refine Z0 (vs:=[.pointer (some ⟨g4,0,none⟩)]) ?_;repeat' first|refine Vz ?_|intro
 refine gX (args:=[.sl 2 (l.map J4) none,bK ⟨i,m,p⟩,F3 368 [.pointer (some ⟨g4,0,none⟩)]]) (cs:=[.pointer (some ⟨g5,0,none⟩),.pointer (some ⟨g3,0,none⟩)])
  [.var g5 98 (jS ⟨n,l,r,⟨i,m,p⟩,⟨i2,m2,q⟩⟩),.var g4 9 (str k),.var g3 91 (hA root)] [] (by rw[hs];exact Po (bes:=λa=>blt a k) (λa=>a5V) c1) (λu m1 hh=>?_) lpr
 obtain⟨rfl,rfl⟩:=hh;unfold JY;dsimp only;cases hs1:vO root n (λa=>blt a k) l ⟨i,m,p⟩
 ·exact o8
 repeat' first|refine Vz ?_|intro
 refine Z0 (vs:=[.pointer (some ⟨g4,0,none⟩)]) ?_;refine D5 ?_;refine gX (args:=[.sl 2 (r.map J4) none,bK ⟨i2,m2,q⟩,F3 369 [.pointer (some ⟨g4,0,none⟩)]]) (cs:=[.pointer (some ⟨g5,0,none⟩),.pointer (some ⟨g3,0,none⟩)])
  [.var g5 98 (jS ⟨n,l,r,⟨i,m,p⟩,⟨i2,m2,q⟩⟩),.var g4 9 (str k),.var g3 91 (hA root)] [] (by rw[hs];exact Po (bes:=λa=>blt k a) (λa=>a5U) c2) (λu m1 hh=>?_) lpr
 obtain⟨rfl,rfl⟩:=hh;cases hs2:vO root n (λa=>blt k a) r ⟨i2,m2,q⟩
 ·exact o8
 have h0:((([]:List Ent)).map J4).length=0:=rfl;rcases l with _|⟨x,l⟩
 ·rcases r with _|⟨y,r⟩
  ·by_cases hn:n=0
   ·repeat' first|refine O ?_|intro
    rw[dT hn];repeat' (first|refine W ?_|refine op3 ?_|refine ob5 ?_|refine DI ?_|refine JR ?_|refine p9 (λ_=>?_)|intro _)
    apply zd [];exact zg;intro _ _;refine D5 ?_;refine b3f [.agg 1 [.sl 2 [] none]] (hp:=Nat.zero_le _) ?_;exact j5 (A7 rfl rfl);repeat' (first|refine W ?_|refine op3 ?_|refine ob5 ?_|refine DI ?_|refine JR ?_|refine p9 (λ_=>?_)|intro _)
    refine x9 ?_;simp[L6,hn,Bu]
   repeat' first|refine O ?_|intro
   rw[dZ hn];repeat' (first|refine W ?_|refine op3 ?_|refine ob5 ?_|refine DI ?_|refine JR ?_|refine p9 (λ_=>?_)|intro _)
   refine x9 ?_;simp[L6,hn,Bu]
  have hmr:((y::r).map J4).length=r.length+1:=sm
  exact o8
 have hml:((x::l).map J4).length=l.length+1:=sm
 obtain⟨c3,c4,c5⟩:=a2I hs1;rcases r with _|⟨y,r⟩
 ·exact o8
 have hmr:((y::r).map J4).length=r.length+1:=sm
 exact o8⟩
end
end Go.Proofs.Z

namespace Go.Proofs.Z
open Go Go.RowKit Tw Av

end Go.Proofs.Z

namespace Av
open Go Go.RowKit Tw
section
variable {P:Program} {N:Nat} {ops:Array Oper} {Q:Exit->Act->World->Prop} {rest:List Oper} {s:Base} {e:Env} {m:List Piece} {d:Nat} {ty:TypeId} {pos:String} {af:Array Edge}
end
end Av
namespace Go.Proofs.Z
open Go Go.RowKit Tw Av
end Go.Proofs.Z

namespace Go.Proofs.Z
open Go Go.RowKit Tw Av
theorem b1G {d:List Ent}(h:d.length<=10)(i:Int):(qP d i).p.length<=10:=by
 unfold qP;dsimp only;rw[YN];exact Nat.le_trans (Gd _ _) (by simpa using h)

theorem a7v {l:List Ent}{i:Nat}(hi:i<l.length)(hl:l.length<=2000):uW (CF l.length (jL (l.map dK))) l[i] (qP l i)=true:=by
 have h:=a7V (l:=l.map dK) (i:=i) (by simpa using hi) (by simpa using hl);simp only[List.length_map,List.getElem_map] at h;unfold uW qP;dsimp only;rw[h];simp

end Go.Proofs.Z

namespace Av
open Go Go.RowKit Tw
section
variable {P:Program} {N:Nat} {s:Base} {e:Env} {m:List Piece}
end
end Av
namespace Go.Proofs.Z
open Go Go.RowKit Tw Av
instance {k:Nat}:ImpT (.lit (.slice none 0 0)) (.sl k [] (some (.slice none 0 0))):=⟨ImpC.nilS⟩
end Go.Proofs.Z

namespace Go.Proofs.Z
open Go Go.RowKit Tw Av
end Go.Proofs.Z

namespace Go.Proofs.Z
open Go Go.RowKit Tw Av Go.Proofs.Tryz
def R7 (p:Prf):Bs:=y9 105 p.a++y9 109 p.m++U0 112 (p.p.map λh=>h.l)
def lN (l:List Ent):List Bs:=l.flatMap λx=>[x.key,x.val]
def bY (l:List Ent)(p:Prf):Bs:=U0 101 (lN l)++r9 80 (R7 p)
def dY (g:Gp):Bs:=y9 109 g.n++bY g.l g.a++bY g.r g.b
instance c0N {i m:Int}{p:List Hsh}{xs:List AV}{id:Option Value}[hx:Hshs xs p]:Ans prog GL 176 [.agg 3 [int i,int m,.sl 32 xs id]] (p.length<=1000000/\i<=9223372036854775807/\m<=9223372036854775807) (str (R7 ⟨i,m,p⟩)):=⟨λhp=>by
 obtain⟨hn,hi,hmm⟩:=hp;have h:=hx.out;subst h;have hm:(p.map hA).length=p.length:=llm _;refine zc func176 ntmps176 λ_ hs=>?_;repeat' first|refine Yz ?_|intro
 rename_i g1;refine sP 3 (Imp.nil (k:=1)) ?_;refine eO (λok w h=>h.full 9 1 none 0) ?_;refine H7 (α:=Nat × Value) (λq=>[(1,ptr g1),(3,.sl 1 (((p.take q.1).map λh=>h.l).map str) (some q.2)),(7,.sl 32 (p.map hA) id),(8,int p.length),(9,int q.1)]) (λq=>[.tail 9 1 q.2,.var g1 96 (.agg 3 [int i,int m,.sl 32 (p.map hA) id])]) (λq=>q.1<=p.length) (λq=>p.length-q.1) (0,.slice none 0 0) ⟨rfl,rfl,rfl,by rw[<- hm];rfl,rfl,trivial⟩ slr (Nat.zero_le _) ?_;rintro⟨j,v⟩ hj;dsimp only at hj ⊢;repeat' first|refine Yz ?_|intro
 refine G7 (λhlt=>?_) (λhlt=>?_)
 ·have hil:j<p.length:=om
  have hml:((p.take j).map λh=>h.l).length<=1000000:=by simp;omega
  repeat' first|refine Yz ?_|intro
  refine aP (λv'=>?_);repeat' first|refine Yz ?_|intro
  refine y7 (j+1,v') ⟨rfl,?_,rfl,rfl,rfl,trivial⟩ (List.Sublist.cons _ slr) hil (by dsimp only;omega);rw[List.take_succ_eq_append_getElem hil,List.map_append,List.map_append];rfl
 obtain rfl:j=p.length:=by omega
 rw[List.take_length];have hml:(p.map λh=>h.l).length<=8000000:=by simp;omega
 exact bH⟩

theorem QN (l:List Ent):(lN l).length=l.length*2:=by
 induction l with
 | nil=>rfl
 | cons x l ih=>simp[lN] at ih ⊢;omega
theorem a2J {l:List Ent}{j:Nat}(h:j<l.length):lN (l.take (j+1))=lN (l.take j)++[l[j].key,l[j].val]:=by
 unfold lN;rw[List.take_succ_eq_append_getElem h,List.flatMap_append];simp
instance {l:List Ent}{p:Prf}:LenLe (bY l p) 33554438:=⟨by
 have h1:=CJ 101 ((lN l).flatMap (r9 101));have h2:=CJ 80 (R7 p);have e:bY l p=r9 101 ((lN l).flatMap (r9 101))++r9 80 (R7 p):=rfl;rw[e,lla];omega⟩
instance c0H {l:List Ent}{i m:Int}{p:List Hsh}{xs ys:List AV}{id id2:Option Value}[hx:Ents xs l][hy:Hshs ys p]:Ans prog GL 218 [.sl 2 xs id,.agg 3 [int i,int m,.sl 32 ys id2]] (l.length<=1000000/\p.length<=1000000/\i<=9223372036854775807/\m<=9223372036854775807) (str (bY l ⟨i,m,p⟩)):=⟨λhp=>by
 obtain⟨hll,hn,hi,hmm⟩:=hp;have h:=hx.out;have h2:=hy.out;subst h h2;have hm:(l.map J4).length=l.length:=llm _;refine zc func218 ntmps218 λ_ hs=>?_;repeat' first|refine Yz ?_|intro
 rename_i g1;refine sP 5 (Imp.nil (k:=1)) ?_;refine eO (λok w h=>h.full 9 1 none 0) ?_;refine H7 (α:=Nat × Value) (λq=>[(3,ptr g1),(5,.sl 1 ((lN (l.take q.1)).map str) (some q.2)),(8,.sl 2 (l.map J4) id),(9,int l.length),(10,int q.1)]) (λq=>[.tail 9 1 q.2,.var g1 96 (.agg 3 [int i,int m,.sl 32 (p.map hA) id2])]) (λq=>q.1<=l.length) (λq=>l.length-q.1) (0,.slice none 0 0) ⟨rfl,rfl,rfl,by rw[<- hm];rfl,rfl,trivial⟩ slr (Nat.zero_le _) ?_;rintro⟨j,v⟩ hj;dsimp only at hj ⊢;repeat' first|refine Yz ?_|intro
 refine G7 (λhlt=>?_) (λhlt=>?_)
 ·have hil:j<l.length:=om
  have hml:(lN (l.take j)).length<=2000000:=by rw[QN];simp;omega
  repeat' first|refine Yz ?_|intro
  refine aP (λv'=>?_);repeat' first|refine Yz ?_|intro
  refine y7 (j+1,v') ⟨rfl,?_,rfl,rfl,rfl,trivial⟩ (List.Sublist.cons _ slr) hil (by dsimp only;omega);rw[a2J hil,List.map_append];rfl
 obtain rfl:j=l.length:=by omega
 rw[List.take_length];have hml:(lN l).length<=8000000:=by rw[QN];omega
 exact bH⟩
structure GapW (g:Gp):Prop where
 l:g.l.length<=1000000/\g.a.p.length<=1000000/\g.a.a<=9223372036854775807/\g.a.m<=9223372036854775807
 r:g.r.length<=1000000/\g.b.p.length<=1000000/\g.b.a<=9223372036854775807/\g.b.m<=9223372036854775807
 n:g.n<=9223372036854775807
instance c2f {n i m i2 m2:Int}{l r:List Ent}{p q:List Hsh}{xs ys zs ws:List AV}{d1 d2 d3 d4:Option Value}[hx:Ents xs l][hy:Ents ys r][hz:Hshs zs p][hw:Hshs ws q]:Ans prog GL 177 [.agg 9 [int n,.sl 2 xs d1,.sl 2 ys d2,.agg 3 [int i,int m,.sl 32 zs d3],.agg 3 [int i2,int m2,.sl 32 ws d4]]] (GapW ⟨n,l,r,⟨i,m,p⟩,⟨i2,m2,q⟩⟩) (str (dY ⟨n,l,r,⟨i,m,p⟩,⟨i2,m2,q⟩⟩)):=⟨λhp=>by
 obtain⟨hl,hr,hn⟩:=hp;dsimp only at hl hr hn;refine zc func177 ntmps177 λ_ hs=>?_;exact bH⟩

section
variable {s:Bs}
def nY (s:Bs):Bs:=l9 105 8 s false
def uF (s:Bs):Bool:=O1 105 2000 s false
def jP (s:Bs):Bs:=l9 109 8 (nY s) (uF s)
def mY (s:Bs):Bool:=O1 109 2000 (nY s) (uF s)
def vT (s:Bs):List Bs:=kM 112 16 32 (jP s) (mY s)
def FF (s:Bs):Int:=X6 (l9 112 16777215 (jP s) (mY s)) (eY 112 16 32 (jP s) (mY s))
def MZ (s:Bs):Prf:=⟨N7 105 2000 s false,N7 109 2000 (nY s) (uF s),(vT s).map Y2⟩
def oO (t:Bs):Bool:=decide (t.length=32)
def nZ (s:Bs):Bool:=(vT s).all oO&&decide (FF s=0)
def kI (s:Bs):Prf:=if nZ s=true then MZ s else P6
def iD (s:Bs):Int:=if nZ s=true then 0 else 10
theorem XN :l9 105 8 s false=nY s:=rfl
theorem Kk :O1 105 2000 s false=uF s:=rfl
theorem XM :l9 109 8 (nY s) (uF s)=jP s:=rfl
theorem Kj :O1 109 2000 (nY s) (uF s)=mY s:=rfl
theorem RD :kM 112 16 32 (jP s) (mY s)=vT s:=rfl
theorem Js (s:Bs):(nY s).length<=s.length/\(jP s).length<=s.length:=by
 have h1:=(aU 105 8 s false).1;have h2:=(aU 109 8 (nY s) (uF s)).1;rw[XN] at h1;rw[XM] at h2;exact⟨h1,om⟩
theorem a0l {l:List Bs}{i:Nat}(hi:i<l.length)(h:(l.take i).all oO=true)(h2:oO l[i]=true):(l.take (i+1)).all oO=true:=by
 rw[List.take_succ_eq_append_getElem hi,List.all_append,h];simp[h2]
theorem a0m {l:List Bs}{i:Nat}(hi:i<l.length)(h2:oO l[i]=false):l.all oO=false:=by
 rw[List.all_eq_false];exact⟨l[i],List.getElem_mem hi,by simp[h2]⟩
theorem NK {c many most:Int}{b:Bool}(h0:0<=many):((kM c many most s b).length:Int)<=many:=by
 unfold kM FQ;split
 ·simpa using h0
 rename_i h;unfold BR at h;by_cases hm:many<((IC c most (I7 c 16777215 s b)).1.length:Int)
 ·rw[dT hm] at h;simp at h
 omega
theorem Rn {a m:Int}:ImpC (.agg 3 [int a,int m,.lit (.slice none 0 0)]) (.agg 3 [int a,int m,.sl 32 [] (some (.slice none 0 0))]):=λok w cs h=>by
 rw[RC] at h ⊢;refine⟨h.1,?_⟩;have h:=h.2;rw[RCs] at h ⊢;obtain⟨a1,b1,e1,f1,h⟩:=h;refine⟨a1,b1,e1,f1,?_⟩;rw[RCs] at h ⊢;obtain⟨a1,b1,e1,f1,h⟩:=h;refine⟨a1,b1,e1,f1,?_⟩;rw[RCs] at h ⊢;obtain⟨a1,b1,e1,f1,h⟩:=h;exact⟨a1,b1,e1,ImpC.nilT _ _ _ f1,h⟩
theorem Au:Imp (.tup [.agg 3 [.lit (.int .i64 0),.lit (.int .i64 0),.lit (.slice none 0 0)],int 10]) (.tup [bK P6,int 10]):=(inferInstance:ImpR _ (.tup [.agg 3 [int 0,int 0,.sl 32 [] none],int 10])).imp
theorem a7k {a m:Int}{xs:List AV}{v:Value}{e:Int}:Imp (.tup [.agg 3 [int a,int m,.sl 32 xs (some v)],int e]) (.tup [.agg 3 [int a,int m,.sl 32 xs none],int e]):=ImpR.imp
instance a8x :Ans prog GL 230 [str s] (s.length<=1000000000) (.tup [bK (kI s),int (iD s)]):=⟨λhl=>by
 obtain⟨l1,l2⟩:=Js s;have e1:(nY s).length=(l9 105 8 s false).length:=rfl;have e2:(jP s).length=(l9 109 8 (l9 105 8 s false) (O1 105 2000 s false)).length:=rfl;refine zc func230 ntmps230 λ_ hs=>?_;repeat' first|refine Yz ?_|intro
 refine J6 (args:=[str s]) [] _ (by rw[hs];exact yM) (λu m1 hh=>?_) lpr;obtain⟨gr,rfl,rfl⟩:=hh;repeat' first|refine Yz ?_|intro
 rw[XN,Kk,XM,Kj,RD];have hE:FF s=X6 (l9 112 16777215 (jP s) (mY s)) (eY 112 16 32 (jP s) (mY s)):=rfl;have hV:MZ s=⟨N7 105 2000 s false,N7 109 2000 (nY s) (uF s),(vT s).map Y2⟩:=rfl;have hK:nZ s=((vT s).all oO&&decide (FF s=0)):=rfl;have hn:=NK (c:=112) (many:=16) (most:=32) (s:=jP s) (b:=mY s) dc;rw[RD] at hn;rw[kI,iD,hK,hV,hE];generalize vT s=L at *;generalize l9 112 16777215 (jP s) (mY s)=S5 at *;generalize eY 112 16 32 (jP s) (mY s)=B5 at *;generalize N7 105 2000 s false=a at *;generalize N7 109 2000 (nY s) (uF s)=m at *;have hml:(L.map str).length=L.length:=llm _;rename_i g2 g5;refine jK (g:=g5) (v':=.agg 3 [int a,int m,.sl 32 [] (some (.slice none 0 0))]) Rn ?_;refine eO (λok w h=>h.full 91 32 none 0) ?_;refine sO (α:={q:List Hsh × Value // L.all oO=true->q.1=L.map Y2}) (λ_=>[(2,ptr g2),(4,ptr gr),(5,ptr g5),(6,int (if L.all oO=true then 0 else 10))])
  (λq=>[.var g5 96 (.agg 3 [int a,int m,.sl 32 (q.1.1.map hA) (some q.1.2)]),.var gr 267 (H5 S5 B5),.var g2 96 (.agg 3 [int 0,int 0,K5])]) ?_ (λq=>?_)
 ·refine H7 (α:=Nat × Value) (λq=>[(2,ptr g2),(4,ptr gr),(5,ptr g5),(6,int 0),(19,.sl 1 (L.map str) none),(20,int L.length),(21,int q.1)])
   (λq=>[.tail 91 32 q.2,.var g5 96 (.agg 3 [int a,int m,.sl 32 (((L.take q.1).map Y2).map hA) (some q.2)]),.var gr 267 (H5 S5 B5),.var g2 96 (.agg 3 [int 0,int 0,K5])])
   (λq=>q.1<=L.length/\(L.take q.1).all oO=true) (λq=>L.length-q.1) (0,.slice none 0 0) ⟨rfl,rfl,rfl,rfl,rfl,by rw[<- hml];rfl,rfl,trivial⟩ slr ⟨Nat.zero_le _,rfl⟩ ?_
  rintro⟨i,v⟩ ⟨h1,h2⟩;dsimp only at h1 h2 ⊢;repeat' first|refine Yz ?_|intro
  refine G7 (λhlt=>?_) (λhlt=>?_)
  ·have hil:i<L.length:=om
   have hml2:((L.take i).map Y2).length<=16:=by simp;omega
   repeat' first|refine Yz ?_|intro
   by_cases h32:L[i].length=32
   ·rw[if_pos h32];repeat' first|refine Yz ?_|intro
    refine aP (λv'=>?_);repeat' first|refine Yz ?_|intro
    refine y7 (i+1,v') za ?_ ⟨hil,a0l hil h2 (dT h32)⟩ (by dsimp only;omega);dsimp only;rw[List.take_succ_eq_append_getElem hil,List.map_append,List.map_append];exact List.Sublist.cons _ slr
   rw[if_neg h32];repeat' first|refine Yz ?_|intro
   have hno:=a0m hil (show oO L[i]=false from dZ h32);refine P9 ⟨((L.take i).map Y2,v),λh=>by rw[hno] at h;cases h⟩ ⟨rfl,rfl,rfl,?_,trivial⟩ ?_
   ·rw[hno];rfl
   exact A8
  obtain rfl:i=L.length:=by omega
  rw[List.take_length] at h2 ⊢;repeat' first|refine Yz ?_|intro
  refine P9 ⟨(L.map Y2,v),λ_=>rfl⟩ ⟨rfl,rfl,rfl,?_,trivial⟩ ?_
  ·rw[h2];rfl
  exact A8
 obtain⟨⟨ps,v⟩,hq⟩:=q;dsimp only at hq ⊢;cases ha:L.all oO
 ·repeat' first|refine Yz ?_|intro
  refine P8 ?_;exact Au
 rw[hq ha];by_cases hE0:X6 S5 B5=0
 ·rw[dT hE0];repeat' first|refine Yz ?_|intro
  refine P8 ?_;exact a7k
 rw[dZ hE0];repeat' first|refine Yz ?_|intro
 refine P8 ?_;exact Au⟩
end

theorem Rk:Imp (.tup [.agg 3 [.lit (.int .i64 0),.lit (.int .i64 0),.lit (.slice none 0 0)],d9 false]) (.tup [bK P6,d9 false]):=(inferInstance:ImpR _ (.tup [.agg 3 [int 0,int 0,.sl 32 [] none],d9 false])).imp
theorem a7j {a m:Int}{xs:List AV}{v:Value}{e:Bool}:Imp (.tup [.agg 3 [int a,int m,.sl 32 xs (some v)],d9 e]) (.tup [.agg 3 [int a,int m,.sl 32 xs none],d9 e]):=ImpR.imp
instance b9R {s:Bs}:Ans prog GL 117 [str s] (s.length<=1000000000) (.tup [bK (kI s),d9 (nZ s)]):=⟨λhl=>by
 obtain⟨l1,l2⟩:=Js s;have e1:(nY s).length=(l9 105 8 s false).length:=rfl;have e2:(jP s).length=(l9 109 8 (l9 105 8 s false) (O1 105 2000 s false)).length:=rfl;refine zc func117 ntmps117 λ_ hs=>?_;repeat' first|refine Yz ?_|intro
 rw[XN,Kk,XM,Kj,RD];have hE:FF s=X6 (l9 112 16777215 (jP s) (mY s)) (eY 112 16 32 (jP s) (mY s)):=rfl;have hV:MZ s=⟨N7 105 2000 s false,N7 109 2000 (nY s) (uF s),(vT s).map Y2⟩:=rfl;have hK:nZ s=((vT s).all oO&&decide (FF s=0)):=rfl;have hn:=NK (c:=112) (many:=16) (most:=32) (s:=jP s) (b:=mY s) dc;rw[RD] at hn;rw[kI,hK,hV,hE];generalize vT s=L at *;generalize l9 112 16777215 (jP s) (mY s)=S5 at *;generalize eY 112 16 32 (jP s) (mY s)=B5 at *;generalize N7 105 2000 s false=a at *;generalize N7 109 2000 (nY s) (uF s)=m at *;have hml:(L.map str).length=L.length:=llm _;by_cases hE0:X6 S5 B5=0
 rotate_left
 ·rw[dZ hE0,Bool.and_false];repeat' first|refine Yz ?_|intro
  refine P8 ?_;exact Rk
 rw[dT hE0,Bool.and_true];repeat' first|refine Yz ?_|intro
 rename_i g2 gr g5;refine jK (g:=g5) (v':=.agg 3 [int a,int m,.sl 32 [] (some (.slice none 0 0))]) Rn ?_;refine eO (λok w h=>h.full 91 32 none 0) ?_;refine H7 (α:=Nat × Value) (λq=>[(2,ptr g2),(5,ptr g5),(6,.sl 1 (L.map str) none),(7,int q.1)])
   (λq=>[.tail 91 32 q.2,.var g5 96 (.agg 3 [int a,int m,.sl 32 (((L.take q.1).map Y2).map hA) (some q.2)]),.var g2 96 (.agg 3 [int 0,int 0,K5])])
   (λq=>q.1<=L.length/\(L.take q.1).all oO=true) (λq=>L.length-q.1) (0,.slice none 0 0) za ?_ ⟨Nat.zero_le _,rfl⟩ ?_
 focus
  exact A8
 rintro⟨i,v⟩ ⟨h1,h2⟩;dsimp only at h1 h2 ⊢;repeat' first|refine Yz ?_|intro
 refine G7 (λhlt=>?_) (λhlt=>?_);rotate_left
 ·obtain rfl:i=L.length:=by omega
  rw[List.take_length] at h2 ⊢;rw[h2];repeat' first|refine Yz ?_|intro
  refine P8 ?_;exact a7j
 have hil:i<L.length:=om
 have hml2:((L.take i).map Y2).length<=16:=by simp;omega
 repeat' first|refine Yz ?_|intro
 by_cases h32:L[i].length=32
 rotate_left
 ·have hno:=a0m hil (show oO L[i]=false from dZ h32);rw[hno];repeat' first|refine Yz ?_|intro
  refine P8 ?_;exact Rk
 repeat' first|refine Yz ?_|intro
 rename_i g8;refine H7 (α:=Nat) (λk=>[(2,ptr g2),(5,ptr g5),(6,.sl 1 (L.map str) none),(7,int i),(8,ptr g8),(9,int k)])
   (λk=>[.var g8 91 (.agg 32 ((jA L[i] k).map I5)),.tail 91 32 v,.var g5 96 (.agg 3 [int a,int m,.sl 32 (((L.take i).map Y2).map hA) (some v)]),.var g2 96 (.agg 3 [int 0,int 0,K5])])
   (λk=>k<=32) (λk=>32-k) 0 za slr (Nat.zero_le _) ?_
 intro k hk;repeat' first|refine Yz ?_|intro
 refine G7 (λhlt2=>?_) (λhlt2=>?_)
 ·have hkl:k<32:=om
  have hkx:k<L[i].length:=om
  repeat' first|refine Yz ?_|intro
  refine EO k ?_ (List.getElem?_eq_getElem hkx);repeat' first|refine Yz ?_|intro
  refine aX k ?_;refine vJ (j:=k) (ps:=(jA L[i] k).map I5) (by simp only[List.length_map];rw[TI h32 hk];exact hkl) ?_;repeat' first|refine Yz ?_|intro
  rw[show ((jA L[i] k).map I5).set k (I5 (L[i])[k])=((jA L[i] k).set k (L[i])[k]).map I5 by rw[List.map_set],Ac h32 hkl];exact y7 (k+1) za slr hkl om
 obtain rfl:k=32:=by omega
 have hA1:AV.agg 32 ((jA L[i] 32).map I5)=hA (Y2 L[i]):=by rw[Ad h32,hA,TU h32]
 rw[hA1];repeat' first|refine Yz ?_|intro
 refine aP (λv'=>?_);repeat' first|refine Yz ?_|intro
 refine y7 (i+1,v') za ?_ ⟨hil,a0l hil h2 (dT h32)⟩ (by dsimp only;omega);dsimp only;rw[List.take_succ_eq_append_getElem hil,List.map_append,List.map_append];exact List.Sublist.cons _ slr⟩
instance a8s {s:Bs}:Ans prog GL 84 [str s] (s.length<=1000000000) (.tup [bK (kI s),int (iD s)]):=⟨λhl=>by
 refine zc func84 ntmps84 λ_ hs=>?_;repeat' first|refine Yz ?_|intro
 rw[kI,iD];cases h:nZ s
 ·repeat' first|refine Yz ?_|intro
  refine P8 ?_;exact Au
 exact bH⟩

section
variable {s:Bs}
def xM (s:Bs)(b:Bool):List Bs:=kM 101 2 4000 s b
def pX (s:Bs)(b:Bool):Bs:=l9 101 16777215 s b
def uD (s:Bs)(b:Bool):Bool:=eY 101 2 4000 s b
def uC (s:Bs)(b:Bool):Bs:=I7 80 4000 (pX s b) (uD s b)
def pW (s:Bs)(b:Bool):Bs:=l9 80 4000 (pX s b) (uD s b)
def kF (s:Bs)(b:Bool):Bool:=F8 80 4000 (pX s b) (uD s b)
def kD (s:Bs)(b:Bool):Bool:=decide (iD (uC s b)=0)&&(!kF s b&&decide ((xM s b).length≠1))
def Iy:List Bs->List Ent
 | [k,v]=>[⟨k,v⟩]
 | _=>[]
def vR (s:Bs)(b:Bool):List Ent:=if kD s b=true then Iy (xM s b) else []
def qZ (s:Bs)(b:Bool):Prf:=if kD s b=true then kI (uC s b) else P6
theorem RB {b:Bool}:l9 101 16777215 s b=pX s b:=rfl
theorem XL {b:Bool}:eY 101 2 4000 s b=uD s b:=rfl
theorem RA {b:Bool}:I7 80 4000 (pX s b) (uD s b)=uC s b:=rfl
theorem QZ {b:Bool}:l9 80 4000 (pX s b) (uD s b)=pW s b:=rfl
theorem XK {b:Bool}:F8 80 4000 (pX s b) (uD s b)=kF s b:=rfl
theorem ND {b:Bool}:kM 101 2 4000 s b=xM s b:=rfl
theorem QR (s:Bs)(b:Bool):(pX s b).length<=s.length/\(pW s b).length<=s.length/\(uC s b).length<=4000:=by
 have h1:=(aU 101 16777215 s b).1;have h2:=(aU 80 4000 (pX s b) (uD s b)).1;have h3:=(CP 80 4000 (pX s b) (uD s b)).2 dc;rw[RB] at h1;rw[QZ] at h2;rw[RA] at h3;exact⟨h1,om,om⟩
theorem Ar {e:Bool}:Imp (.tup [.lit (.slice none 0 0),.agg 3 [.lit (.int .i64 0),.lit (.int .i64 0),.lit (.slice none 0 0)],d9 e]) (.tup [.sl 2 [] none,bK P6,d9 e]):=(inferInstance:ImpR _ (.tup [.sl 2 [] none,.agg 3 [int 0,int 0,.sl 32 [] none],d9 e])).imp
theorem a7i {e:Bool}{x:AV}:Imp (.tup [.lit (.slice none 0 0),x,d9 e]) (.tup [.sl 2 [] none,x,d9 e]):=ImpR.imp
instance c0d {g:Nat}{b:Bool}:AnsM prog GL 251 g [] 267 (H5 s b) (s.length<=1000000000) (.tup [.sl 2 ((vR s b).map J4) none,bK (qZ s b),d9 (kD s b)]) (H5 (pW s b) (kF s b)):=⟨λhl=>by
 obtain⟨l1,l2,l3⟩:=QR s b;have e1:(pX s b).length=(l9 101 16777215 s b).length:=rfl;have e2:(uC s b).length=(I7 80 4000 (l9 101 16777215 s b) (eY 101 2 4000 s b)).length:=rfl;refine zc func251 ntmps251 λ_ hs=>?_;repeat' first|refine Yz ?_|intro
 rw[RB,XL,RA,QZ,XK,ND];have hX:=NK (c:=101) (many:=2) (most:=4000) (s:=s) (b:=b) dc;rw[ND] at hX;rw[vR,qZ];have hO:kD s b=(decide (iD (uC s b)=0)&&(!kF s b&&decide ((xM s b).length≠1))):=rfl;rw[hO];generalize xM s b=X at *;generalize uC s b=t at *;generalize pW s b=S2 at *;generalize kF s b=B2 at *;have hml:(X.map str).length=X.length:=llm _;by_cases hE:iD t=0
 rotate_left
 ·rw[dZ hE,Bool.false_and];repeat' first|refine Yz ?_|intro
  refine Y1 (.tup [.sl 2 [] none,bK P6,d9 false]) [.var g 267 (H5 S2 B2)] ?_ ⟨rfl,rfl⟩ ?_
  focus
   exact Ar
  exact A8
 rw[dT hE,Bool.true_and];repeat' first|refine Yz ?_|intro
 cases B2;rotate_left
 ·repeat' first|refine Yz ?_|intro
  refine Y1 (.tup [.sl 2 [] none,bK P6,d9 false]) [.var g 267 (H5 S2 true)] ?_ ⟨rfl,rfl⟩ ?_
  focus
   exact Ar
  exact A8
 repeat' first|refine Yz ?_|intro
 rcases X with _|⟨k,_|⟨v,_|⟨w,X⟩⟩⟩
 ·repeat' first|refine Yz ?_|intro
  refine Y1 (.tup [.sl 2 [] none,bK (kI t),d9 true]) [.var g 267 (H5 S2 false)] ?_ ⟨rfl,rfl⟩ ?_
  focus
   exact a7i
  exact A8
 ·repeat' first|refine Yz ?_|intro
  refine Y1 (.tup [.sl 2 [] none,bK P6,d9 false]) [.var g 267 (H5 S2 false)] ?_ ⟨rfl,rfl⟩ ?_
  focus
   exact Ar
  exact A8
 ·repeat' first|refine Yz ?_|intro
  refine Y1 (.tup [.sl 2 [.agg 2 [str k,str v]] none,bK (kI t),d9 true]) [.var g 267 (H5 S2 false)] ?_ ⟨rfl,rfl⟩ ?_
  focus
   exact λ_ _ _ h=>h
  exact A8
 simp at hX;omega⟩
def X5 (s:Bs):Bs:=l9 109 8 s false
def cK (s:Bs):Bool:=O1 109 2000 s false
def U5 (s:Bs):Bs:=pW (X5 s) (cK s)
def aG (s:Bs):Bool:=kF (X5 s) (cK s)
def FJ (s:Bs):Int:=X6 (pW (U5 s) (aG s)) (kF (U5 s) (aG s))
def NF (s:Bs):Gp:=⟨N7 109 2000 s false,vR (X5 s) (cK s),vR (U5 s) (aG s),qZ (X5 s) (cK s),qZ (U5 s) (aG s)⟩
def JH (s:Bs):Bool:=kD (X5 s) (cK s)&&(kD (U5 s) (aG s)&&decide (FJ s=0))
def qC (s:Bs):Gp:=if JH s=true then NF s else lD
def oF (s:Bs):Int:=if JH s=true then 0 else 10
theorem XJ :l9 109 8 s false=X5 s:=rfl
theorem Ke :O1 109 2000 s false=cK s:=rfl
theorem XI :pW (X5 s) (cK s)=U5 s:=rfl
theorem XH :kF (X5 s) (cK s)=aG s:=rfl
theorem Kq (s:Bs):(X5 s).length<=s.length/\(U5 s).length<=s.length:=by
 have h1:=(aU 109 8 s false).1;have h2:=(QR (X5 s) (cK s)).2.1;rw[XJ] at h1;rw[XI] at h2;exact⟨h1,om⟩
theorem EE:Imp (.tup [.agg 9 [.lit (.int .i64 0),.lit (.slice none 0 0),.lit (.slice none 0 0),.agg 3 [.lit (.int .i64 0),.lit (.int .i64 0),.lit (.slice none 0 0)],.agg 3 [.lit (.int .i64 0),.lit (.int .i64 0),.lit (.slice none 0 0)]],int 10]) (.tup [jS lD,int 10]):=
 (inferInstance:ImpR _ (.tup [.agg 9 [int 0,.sl 2 [] none,.sl 2 [] none,.agg 3 [int 0,int 0,.sl 32 [] none],.agg 3 [int 0,int 0,.sl 32 [] none]],int 10])).imp
instance a8p :Ans prog GL 231 [str s] (s.length<=1000000000) (.tup [jS (qC s),int (oF s)]):=⟨λhl=>by
 obtain⟨l1,l2⟩:=Kq s;have e1:(X5 s).length=(l9 109 8 s false).length:=rfl;have e2:(U5 s).length=(pW (l9 109 8 s false) (O1 109 2000 s false)).length:=rfl;refine zc func231 ntmps231 λ_ hs=>?_;repeat' first|refine Yz ?_|intro
 refine J6 (args:=[str s]) [] _ (by rw[hs];exact yM) (λu m1 hh=>?_) lpr;obtain⟨gr,rfl,rfl⟩:=hh;repeat' first|refine Yz ?_|intro
 rw[XJ,Ke,XI,XH];have hE:FJ s=X6 (pW (U5 s) (aG s)) (kF (U5 s) (aG s)):=rfl;have hV:NF s=⟨N7 109 2000 s false,vR (X5 s) (cK s),vR (U5 s) (aG s),qZ (X5 s) (cK s),qZ (U5 s) (aG s)⟩:=rfl;have hK:JH s=(kD (X5 s) (cK s)&&(kD (U5 s) (aG s)&&decide (FJ s=0))):=rfl;rw[qC,oF,hK,hV,hE];cases h1:kD (X5 s) (cK s)
 ·repeat' first|refine Yz ?_|intro
  refine P8 ?_;exact EE
 cases h2:kD (U5 s) (aG s)
 ·repeat' first|refine Yz ?_|intro
  refine P8 ?_;exact EE
 repeat' first|refine Yz ?_|intro
 by_cases h3:X6 (pW (U5 s) (aG s)) (kF (U5 s) (aG s))=0
 ·rw[dT h3];exact bH
 rw[dZ h3];repeat' first|refine Yz ?_|intro
 refine P8 ?_;exact EE⟩
class RgSl (a:AV)(l:List Ent):Prop where
 imp:ImpT a (.sl 2 (l.map J4) none)
theorem a7l {n:Int}{a b p q:AV}{l r:List Ent}[h1:RgSl a l][h2:RgSl b r]:Imp (.tup [.agg 9 [int n,a,b,p,q],int 0]) (.tup [.agg 9 [int n,.sl 2 (l.map J4) none,.sl 2 (r.map J4) none,p,q],int 0]):=
 have:=h1.imp;have:=h2.imp
 ImpR.imp
instance : RgSl (.lit (.slice none 0 0)) [] := ⟨(inferInstance : ImpT _ (.sl 2 [] none))⟩
instance {k v:Bs}:RgSl (.sl 2 [.agg 2 [str k,str v]] none) [⟨k,v⟩]:=⟨(inferInstance:ImpT _ (.sl 2 [.agg 2 [str k,str v]] none))⟩
theorem a2X :kF s true=true:=by
 have h1:uD s true=true:=by
  unfold uD eY BR F8;rw[CY];rfl
 unfold kF F8;rw[h1,CY];rfl
theorem a3U {b:Bool}(h:X6 s b=0):b=false:=by
 cases b
 ·rfl
 unfold X6 at h;rw[if_pos (.inl rfl)] at h;cases h
theorem Jq :decide (iD s=0)=nZ s:=by
 unfold iD;cases nZ s <;> rfl
instance a8r :Ans prog GL 85 [str s] (s.length<=1000000000) (.tup [jS (qC s),int (oF s)]):=⟨λhl=>by
 obtain⟨l1,l2⟩:=Kq s;obtain⟨l3,l4,l5⟩:=QR (X5 s) (cK s);obtain⟨l6,l7,l8⟩:=QR (U5 s) (aG s);have f1:l9 109 8 s false=X5 s:=rfl;have e1:(X5 s).length=(l9 109 8 s false).length:=rfl;have e2:(pX (X5 s) (cK s)).length=(l9 101 16777215 (l9 109 8 s false) (O1 109 2000 s false)).length:=rfl;have e3:(U5 s).length=(l9 80 4000 (l9 101 16777215 (l9 109 8 s false) (O1 109 2000 s false)) (eY 101 2 4000 (l9 109 8 s false) (O1 109 2000 s false))).length:=rfl;have e4:(pX (U5 s) (aG s)).length=(l9 101 16777215 (l9 80 4000 (l9 101 16777215 (l9 109 8 s false) (O1 109 2000 s false)) (eY 101 2 4000 (l9 109 8 s false) (O1 109 2000 s false))) (F8 80 4000 (l9 101 16777215 (l9 109 8 s false) (O1 109 2000 s false)) (eY 101 2 4000 (l9 109 8 s false) (O1 109 2000 s false)))).length:=rfl;refine zc func85 ntmps85 λ_ hs=>?_;repeat' first|refine Yz ?_|intro
 rw[XJ,Ke,RB (s:=X5 s),XL (s:=X5 s),RA (s:=X5 s),QZ (s:=X5 s),XK (s:=X5 s),ND (s:=X5 s),XI,XH,RB (s:=U5 s),XL (s:=U5 s),RA (s:=U5 s),QZ (s:=U5 s),XK (s:=U5 s),ND (s:=U5 s)];have hE:FJ s=X6 (pW (U5 s) (aG s)) (kF (U5 s) (aG s)):=rfl;have hV:NF s=⟨N7 109 2000 s false,vR (X5 s) (cK s),vR (U5 s) (aG s),qZ (X5 s) (cK s),qZ (U5 s) (aG s)⟩:=rfl;have hK:JH s=(kD (X5 s) (cK s)&&(kD (U5 s) (aG s)&&decide (FJ s=0))):=rfl;rw[qC,oF,hK,hV,hE];by_cases h3:X6 (pW (U5 s) (aG s)) (kF (U5 s) (aG s))=0
 rotate_left
 ·rw[dZ h3,Bool.and_false,Bool.and_false];repeat' first|refine Yz ?_|intro
  refine P8 ?_;exact EE
 have b2:kF (U5 s) (aG s)=false:=a3U h3;have b1:kF (X5 s) (cK s)=false:=by
  rw[XH];cases hb:aG s
  ·rfl
  rw[hb,a2X] at b2;cases b2
 have o1:kD (X5 s) (cK s)=(nZ (uC (X5 s) (cK s))&&decide ((xM (X5 s) (cK s)).length≠1)):=by
  unfold kD;rw[Jq,b1];rfl
 have o2:kD (U5 s) (aG s)=(nZ (uC (U5 s) (aG s))&&decide ((xM (U5 s) (aG s)).length≠1)):=by
  unfold kD;rw[Jq,b2];rfl
 have hX1:=NK (c:=101) (many:=2) (most:=4000) (s:=X5 s) (b:=cK s) dc;have hX2:=NK (c:=101) (many:=2) (most:=4000) (s:=U5 s) (b:=aG s) dc;rw[ND] at hX1 hX2;rw[dT h3,Bool.and_true,vR,vR,qZ,qZ,o1,o2];generalize xM (X5 s) (cK s)=X1 at *;generalize xM (U5 s) (aG s)=X2 at *;generalize uC (X5 s) (cK s)=t1 at *;generalize uC (U5 s) (aG s)=t2 at *;generalize N7 109 2000 s false=n at *;have hne:∀ (x:Bs),decide (([x]:List Bs).length≠1)=false:=λ_=>rfl;have hn0:decide (([]:List Bs).length≠1)=true:=rfl;have hn2:∀ (x y:Bs),decide (([x,y]:List Bs).length≠1)=true:=λ_ _=>rfl;rcases X1 with _|⟨k,_|⟨v,_|⟨w,X1⟩⟩⟩
 rotate_left
 ·rw[hne,Bool.and_false,Bool.false_and];repeat' first|refine Yz ?_|intro
  refine P8 ?_;exact EE
 rotate_left
 ·simp at hX1;omega
 all_goals
  rcases X2 with _|⟨k2,_|⟨v2,_|⟨w2,X2⟩⟩⟩
  rotate_left
  focus
   rw[hne,Bool.and_false,Bool.and_false];repeat' first|refine Yz ?_|intro
   refine P8 ?_;exact EE
  rotate_left
  focus
   simp at hX2;omega
  all_goals
   first|rw[hn0,Bool.and_true]|rw[hn2,Bool.and_true]
   try rw[hn0]
   try rw[hn2]
   try rw[Bool.and_true]
   repeat' first|refine Yz ?_|intro
   cases hr1:nZ t1
   focus
    repeat' first|refine Yz ?_|intro
    refine P8 ?_;exact EE
   cases hr2:nZ t2
   focus
    repeat' first|refine Yz ?_|intro
    refine P8 ?_;exact EE
   repeat' first|refine Yz ?_|intro
   refine P8 ?_;simp only[Bool.and_self,if_true,Iy];exact a7l⟩
end
end Go.Proofs.Z

namespace Go.Proofs.Z
open Go Go.RowKit Tw Av

structure PG (p:Prf):Prop where
 a:0<=p.a/\p.a<=2000
 m:0<=p.m/\p.m<=2000
 l:p.p.length<=16
theorem Ba (h:Hsh):Y2 h.l=h:=by
 unfold Y2;rw[dif_pos h.len]
theorem a6g (l:List Hsh):(l.map λh=>h.l).map Y2=l:=by
 rw[List.map_map]
 conv=>rhs;rw[<- List.map_id l]
 exact List.map_congr_left λh _=>Ba h
theorem Jr {p:Prf}(h:PG p)(r:Bs):vT (R7 p++r)=p.p.map (λh=>h.l)/\FF (R7 p++r)=(if r=[] then 0 else 10)/\MZ (R7 p++r)=p:=by
 obtain⟨⟨h1,h2⟩,⟨h3,h4⟩,h5⟩:=h;have hB:R7 p++r=y9 105 p.a++(y9 109 p.m++(U0 112 (p.p.map λh=>h.l)++r)):=by
  unfold R7;simp only[List.append_assoc]
 have hall:∀ s∈p.p.map (λh=>h.l),(s.length:Int)<=32/\s.length<=16777215:=λs hs=>by
  obtain⟨q,_,rfl⟩:=List.mem_map.1 hs;rw[q.len];decide
 obtain⟨a1,a2,a3⟩:=oI (c:=105) (most:=2000) (n:=p.a) (r:=y9 109 p.m++(U0 112 (p.p.map λh=>h.l)++r)) dc dc h1 h2 dc;obtain⟨b1,b2,b3⟩:=oI (c:=109) (most:=2000) (n:=p.m) (r:=U0 112 (p.p.map λh=>h.l)++r) dc dc h3 h4 dc;obtain⟨d1,d2,d3⟩:=RN (c:=112) (many:=16) (most:=32) (l:=p.p.map λh=>h.l) (r:=r) dc dc (by rw[llm];omega) hall (by
  have:=KO (c:=112) (n:=32) (l:=p.p.map λh=>h.l) (λs hs=>by have:=hall s hs;omega) dc;rw[llm] at this;omega)
 have s1:nY (R7 p++r)=y9 109 p.m++(U0 112 (p.p.map λh=>h.l)++r):=by unfold nY;rw[hB,a2]
 have t1:uF (R7 p++r)=false:=by unfold uF;rw[hB,a3]
 have s2:jP (R7 p++r)=U0 112 (p.p.map λh=>h.l)++r:=by unfold jP;rw[s1,t1,b2]
 have t2:mY (R7 p++r)=false:=by unfold mY;rw[s1,t1,b3]
 have hL:vT (R7 p++r)=p.p.map (λh=>h.l):=by unfold vT;rw[s2,t2,d1]
 refine⟨hL,?_,?_⟩
 ·unfold FF;rw[s2,t2,d2,d3];unfold X6;by_cases hr:r=[]
  ·simp[hr]
  simp[hr]
 unfold MZ;rw[hL,a6g,s1,t1,b1,hB,a1]
theorem a3z (p:Prf):(p.p.map λh=>h.l).all oO=true:=by
 rw[List.all_eq_true];intro s hs;obtain⟨q,_,rfl⟩:=List.mem_map.1 hs;exact dT q.len
theorem XE {p:Prf}(h:PG p):kI (R7 p)=p/\iD (R7 p)=0/\iD (R7 p++[120])=10:=by
 obtain⟨a1,a2,a3⟩:=Jr h [];obtain⟨b1,b2,b3⟩:=Jr h [120];rw[List.append_nil] at a1 a2 a3;have hk:nZ (R7 p)=true:=by
  unfold nZ;rw[a1,a2,a3z];rfl
 have hk2:nZ (R7 p++[120])=false:=by
  unfold nZ;rw[b2,Bool.and_eq_false_iff];exact .inr rfl
 unfold kI iD;rw[if_pos hk,if_pos hk,hk2,a3];exact⟨rfl,rfl,rfl⟩
theorem Na {p:Prf}(h:PG p):(R7 p).length<=4000:=by
 have h1:(digits p.a.toNat).length<=8:=GU 8 _;have h2:(digits p.m.toNat).length<=8:=GU 8 _;have h3:=h.l;have hall:∀ s∈p.p.map (λh=>h.l),s.length<=32:=λs hs=>by
  obtain⟨q,_,rfl⟩:=List.mem_map.1 hs;rw[q.len];exact Nat.le_refl _
 have h4:=KO (c:=112) (n:=32) hall dc;rw[llm] at h4;have e:R7 p=r9 105 (digits p.a.toNat)++r9 109 (digits p.m.toNat)++r9 112 ((p.p.map λh=>h.l).flatMap (r9 112)):=rfl;rw[e,yL om,yL om,yL om];simp only[List.length_append,List.length_cons];omega
structure SG (l:List Ent)(p:Prf):Prop where
 n:l.length<=1
 f:∀ x∈l,x.key.length<=4000/\x.val.length<=4000
 p:PG p
theorem Iu {l:List Ent}{p:Prf}{r:Bs}(h:SG l p):kD (bY l p++r) false=true/\vR (bY l p++r) false=l/\qZ (bY l p++r) false=p/\pW (bY l p++r) false=r/\kF (bY l p++r) false=false:=by
 have hB:bY l p++r=U0 101 (lN l)++(r9 80 (R7 p)++r):=by
  unfold bY;simp only[List.append_assoc]
 have hsT:(lN l).length<=2:=by rw[QN];have:=h.n;omega
 have hall:∀ s∈lN l,s.length<=4000:=λs hs=>by
  unfold lN at hs;obtain⟨x,hx,hs⟩:=List.mem_flatMap.1 hs;have:=h.f x hx;simp only[List.mem_cons,List.not_mem_nil,or_false] at hs;rcases hs with rfl|rfl
  ·exact this.1
  exact this.2
 have hps:=Na h.p;obtain⟨a1,a2,a3⟩:=RN (c:=101) (many:=2) (most:=4000) (l:=lN l) (r:=r9 80 (R7 p)++r) dc dc om (λs hs=>by have:=hall s hs;omega) (by
  have:=KO (c:=101) hall dc;omega)
 obtain⟨b1,b2,b3⟩:=yV (c:=80) (most:=4000) (s:=R7 p) (r:=r) dc dc om om;have s1:pX (bY l p++r) false=r9 80 (R7 p)++r:=by unfold pX;rw[hB,a2]
 have t1:uD (bY l p++r) false=false:=by unfold uD;rw[hB,a3]
 have hX:xM (bY l p++r) false=lN l:=by unfold xM;rw[hB,a1]
 have hT:uC (bY l p++r) false=R7 p:=by unfold uC;rw[s1,t1,b1]
 have hS:pW (bY l p++r) false=r:=by unfold pW;rw[s1,t1,b2]
 have hb:kF (bY l p++r) false=false:=by unfold kF;rw[s1,t1,b3]
 obtain⟨q1,q2,_⟩:=XE h.p;have hne:(lN l).length≠1:=by rw[QN];omega
 have hk:kD (bY l p++r) false=true:=by
  unfold kD;rw[hT,hb,hX,q2,dT hne];rfl
 refine⟨hk,?_,?_,hS,hb⟩
 ·unfold vR;rw[if_pos hk,hX];have hn:=h.n;rcases l with _|⟨x,_|⟨y,l⟩⟩
  ·rfl
  ·rfl
  simp at hn
 unfold qZ;rw[if_pos hk,hT,q1]
structure GG (g:Gp):Prop where
 n:0<=g.n/\g.n<=2000
 a:SG g.l g.a
 b:SG g.r g.b
theorem Ko {g:Gp}(h:GG g):qC (dY g)=g/\oF (dY g)=0:=by
 have hB:dY g=y9 109 g.n++(bY g.l g.a++(bY g.r g.b++[])):=by
  unfold dY;simp only[List.append_assoc,List.append_nil]
 obtain⟨a1,a2,a3⟩:=oI (c:=109) (most:=2000) (n:=g.n) (r:=bY g.l g.a++(bY g.r g.b++[])) dc dc h.n.1 h.n.2 dc;obtain⟨b1,b2,b3,b4,b5⟩:=Iu (r:=bY g.r g.b++[]) h.a;obtain⟨d1,d2,d3,d4,d5⟩:=Iu (r:=[]) h.b;have s1:X5 (dY g)=bY g.l g.a++(bY g.r g.b++[]):=by unfold X5;rw[hB,a2]
 have t1:cK (dY g)=false:=by unfold cK;rw[hB,a3]
 have s2:U5 (dY g)=bY g.r g.b++[]:=by unfold U5;rw[s1,t1,b4]
 have t2:aG (dY g)=false:=by unfold aG;rw[s1,t1,b5]
 have hE:FJ (dY g)=0:=by unfold FJ;rw[s2,t2,d4,d5];rfl
 have hV:NF (dY g)=g:=by
  unfold NF;rw[s1,t1,s2,t2,b2,b3,d2,d3,hB,a1]
 have hk:JH (dY g)=true:=by
  unfold JH;rw[s1,t1,s2,t2,b1,d1,hE];rfl
 unfold qC oF;rw[if_pos hk,if_pos hk,hV];exact⟨rfl,rfl⟩
theorem zU:PG P6:=⟨dc,dc,dc⟩
theorem b1F {d:List Ent}{i:Nat}(hd:d.length<=10)(h:i<=10):PG (qP d i):=by
 have:=b1G hd i;exact⟨by simp only[qP];omega,by simp only[qP];omega,om⟩
theorem a6a {d:List Ent}{i:Nat}{b:Bool}(hd:d.length<=10)(h:i<=d.length):PG (fV d i b):=by
 unfold fV;split
 ·exact b1F hd om
 exact zU
end Go.Proofs.Z


