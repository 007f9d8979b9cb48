/- . -/
import Derived.Test.YtjhnaegpchadiaaGreatDoorN22
set_option maxHeartbeats 64000000
namespace Go.Proofs.YtjhnaegpchadiaaGreatDoor
open Go Go.RowKit Tw Av Go.Proofs.Tryz
theorem Pq (N:Nat):N<=2000->∀ {n i:Nat} {h:Hsh} {p:List Hsh} {xs:List AV} {id:Option Value} [Hshs xs p],Ans prog GL 465 [int n,int i,hA h,.sl 32 xs id] (n<=N/\i<n/\p.length=(turns n i).length) (hA (mQ (turns n i) h p)):=by
 induction N with
 | zero=>exact fun _=>⟨fun hc=>absurd hc.2.1 om⟩
 | succ N ih=>
  intro hN n i h p xs id hx;have ih:=@ih om;refine⟨fun hc=>?_⟩;obtain⟨c1,c2,c3⟩:=hc;have hh:=hx.out;subst hh;have hm:(p.map hA).length=p.length:=llm _;refine qF func465 ntmps465 fun _ hs=>?_;repeat' first|refine Wz ?_|intro _
  refine o8 (fun h1=>?_) (fun h1=>?_)
  ·obtain rfl:n=1:=by omega
   repeat' first|refine Wz ?_|intro _
   exact d9 rfl
  ·have hr:=Oy c2 om;have hk0:((n:Int)+1) / 2=(((n+1) / 2:Nat):Int):=by omega
   have hpb:p.length<=n:=by rw[c3];exact NP n n i (Nat.le_refl _)
   rw[hr,List.length_cons] at c3;have hpn:p.length-1<p.length:=by omega
   have hpe:p=p.take (p.length-1)++[p[p.length-1]]:=by
    rw[<- List.take_succ_eq_append_getElem hpn,show p.length-1+1=p.length by omega,List.take_length]
   have hup:∀ t ts,mQ (t::ts) h p=if t.1=true then pV (mQ ts h (p.take (p.length-1))) p[p.length-1] else pV p[p.length-1] (mQ ts h (p.take (p.length-1))):=fun t ts=>by
    have:=Ps t ts h p[p.length-1] (p.take (p.length-1))
    rwa [<- hpe] at this
   have htl:((p.take (p.length-1)).drop 0).length=p.length-1:=sm
   repeat' first|refine Wz ?_|intro _
   rw[hk0];generalize hk:(n+1) / 2=k at *;refine Z5 (l:=p) (f:=hA) (p.length-1) hpn ?_;repeat' first|refine Wz ?_|intro _
   refine o8 (fun hlt=>?_) (fun hlt=>?_)
   ·have hik:i<k:=om
    rw[if_pos hik,if_pos hik] at hr c3;repeat' first|refine Wz ?_|intro _
    apply x8 [];exact rfl;exact rfl;kernel_rfl;intro _ _;refine uB 0 (p.length-1) ?_;exact j4 (o9 rfl rfl);apply x8 [];exact rfl;exact rfl;kernel_rfl;intro _ _;refine MV (hp:=by exact⟨om,hik,by rw[htl];omega⟩) ?_;exact j4 (o9 rfl rfl);repeat' first|refine Wz ?_|intro _
    refine d9 ?_;rw[hr,hup,if_pos (by simpa using hik),List.drop_zero];rfl
   ·have hik:¬ i<k:=om
    rw[if_neg hik,if_neg hik] at hr c3;repeat' first|refine Wz ?_|intro _
    have e1:(n:Int)-(k:Int)=((n-k:Nat):Int):=om
    have e2:(i:Int)-(k:Int)=((i-k:Nat):Int):=om
    rw[e1,e2];repeat' first|refine Wz ?_|intro _
    apply x8 [];exact rfl;exact rfl;kernel_rfl;intro _ _;refine uB 0 (p.length-1) ?_;exact j4 (o9 rfl rfl);apply x8 [];exact rfl;exact rfl;kernel_rfl;intro _ _;refine MV (hp:=by exact⟨om,om,by rw[htl];omega⟩) ?_;exact j4 (o9 rfl rfl);repeat' first|refine Wz ?_|intro _
    refine d9 ?_;rw[hr,hup,if_neg (by simpa using hik),List.drop_zero];rfl
instance b1x {n i:Nat}{h:Hsh}{p:List Hsh}{xs:List AV}{id:Option Value}[Hshs xs p]:Ans prog GL 465 [int n,int i,hA h,.sl 32 xs id] (n<=2000/\i<n/\p.length=(turns n i).length) (hA (mQ (turns n i) h p)):=Pq 2000 (Nat.le_refl _)
instance b2I {n i:Int}{h:Hsh}{p:List Hsh}{xs:List AV}{id:Option Value}[hx:Hshs xs p]:Ans prog GL 461 [int n,int i,hA h,.sl 32 xs id] (n<=9223372036854775807) (.tup [hA ((yA n i h p).getD F3),j3 (yA n i h p).isSome]):=⟨fun hn=>by
 have hh:=hx.out;subst hh;have hmp:(p.map hA).length=p.length:=llm _;refine qF func461 ntmps461 fun _ hs=>?_;repeat' first|refine Wz ?_|intro _
 refine Y9 (fun h1=>?_) (fun h1=>?_)
 ·repeat' first|refine Wz ?_|intro _
  refine d9 ?_;rw[MJ (.inl h1)];rfl
 ·repeat' first|refine Wz ?_|intro _
  refine Y9 (fun h2=>?_) (fun h2=>?_)
  ·repeat' first|refine Wz ?_|intro _
   refine d9 ?_;rw[MJ (.inr (.inl h2))];rfl
  ·repeat' first|refine Wz ?_|intro _
   refine Y9 (fun h3=>?_) (fun h3=>?_)
   ·repeat' first|refine Wz ?_|intro _
    refine d9 ?_;rw[MJ (.inr (.inr (.inl h3)))];rfl
   ·repeat' first|refine Wz ?_|intro _
    refine o8 (fun h4=>?_) (fun h4=>?_)
    ·repeat' first|refine Wz ?_|intro _
     refine d9 ?_;rw[MJ (.inr (.inr (.inr om)))];rfl
    ·rw[a0C (h:=h) (show ¬ (i<0\/n<=i\/2000<n\/(dQ n i).length≠p.length) by omega)];obtain⟨N,rfl⟩:∃ N:Nat,n=N:=⟨n.toNat,om⟩;obtain⟨I,rfl⟩:∃ I:Nat,i=I:=⟨i.toNat,om⟩;have hw:dQ (N:Int) (I:Int)=turns N I:=Oz om om;rw[hw] at h4 ⊢;repeat' first|refine Wz ?_|intro _
     exact d9 rfl⟩
end Go.Proofs.YtjhnaegpchadiaaGreatDoor

namespace Go.Proofs.YtjhnaegpchadiaaGreatDoor
open Go Go.RowKit Tw Av
theorem Qq {α:Type}{a b:List α}{i:Nat}(h:a.take i=b.take i)(ha:i<a.length)(hb:i<b.length)(he:a[i]=b[i]):a.take (i+1)=b.take (i+1):=by
 rw[List.take_succ_eq_append_getElem ha,List.take_succ_eq_append_getElem hb,h,he]



end Go.Proofs.YtjhnaegpchadiaaGreatDoor

namespace Go.Proofs.YtjhnaegpchadiaaGreatDoor
open Go Go.RowKit Tw Av Go.Proofs.Tryz
structure Prf where
 a:Int
 m:Int
 p:List Hsh
deriving DecidableEq
structure Gp where
 n:Int
 l:List Ent
 r:List Ent
 a:Prf
 b:Prf
deriving DecidableEq
abbrev jA (x:Prf):AV:=.agg 3 [int x.a,int x.m,.sl 32 (x.p.map hA) none]
abbrev AJ (x:Gp):AV:=.agg 9 [int x.n,.sl 2 (x.l.map D5) none,.sl 2 (x.r.map D5) none,jA x.a,jA x.b]
def mK:Prf:=⟨0,0,[]⟩
def qQ:Gp:=⟨0,[],[],mK,mK⟩
def xV (root:Hsh)(x:Ent)(p:Prf):Bool:=(yA p.m p.a (aW x) p.p).isSome&&decide ((yA p.m p.a (aW x) p.p).getD F3=root)
def XP (root:Hsh)(n:Int)(bes:Bs->Bool):List Ent->Prf->Bool
 | [],_=>true
 | [x],p=>bes x.key&&(decide (p.m=n)&&xV root x p)
 | _,_=>false
def a2p (root:Hsh)(g:Gp):Bool:=match g.l,g.r with
 | [],[]=>decide (g.n=0)&&decide (root=uF 0 (qU []))
 | [],_=>decide (g.b.a=0)
 | _,[]=>decide (g.a.a=g.n-1)
 | _,_=>decide (g.b.a=g.a.a+1)
def Xw (root:Hsh)(k:Bs)(g:Gp):Bool:=XP root g.n (fun a=>blt a k) g.l g.a&&(XP root g.n (fun a=>blt k a) g.r g.b&&a2p root g)
def Gf (l:List Ent)(k:Bs):Nat:=l.findIdx fun x=>!blt x.key k
def a0V (l:List Ent)(k:Bs):Bool:=decide (Gf l k<l.length/\(l.getD (Gf l k) ⟨[],[]⟩).key=k)
attribute [irreducible] a0V
instance b4W {a b:List Ent}{xs ys:List AV}{id id2:Option Value}[hx:Ents xs a][hy:Ents ys b]:Ans prog GL 26 [.sl 2 xs id,.sl 2 ys id2] True (j3 (decide (a=b))):=⟨fun _=>by
 have h1:=hx.out;have h2:=hy.out;subst h1 h2;have hma:(a.map D5).length=a.length:=llm _;have hmb:(b.map D5).length=b.length:=llm _;refine qF func26 ntmps26 fun _ hs=>?_;refine CK 0 (fun hb=>?_);have hb:=tL hb;repeat' first|refine Vz ?_|intro _
 refine o8 (fun hne=>?_) (fun he=>?_)
 ·repeat' first|refine Vz ?_|intro _
  refine d9 ?_;have:a≠b:=fun e=>by subst e;exact hne rfl
  simp[J6,this]
 ·have hle:a.length=b.length:=om
  repeat' first|refine Vz ?_|intro _
  refine y5 (α:=Nat) (fun i=>[(0,.sl 2 (a.map D5) id),(1,.sl 2 (b.map D5) id2),(5,int i)]) (fun _=>[]) (fun i=>i<=a.length/\a.take i=b.take i) (fun i=>a.length-i) 0 ⟨rfl,rfl,rfl,trivial⟩ slr ⟨Nat.zero_le _,rfl⟩ ?_;rintro i ⟨g1,g2⟩;repeat' first|refine Vz ?_|intro _
  refine o8 (fun hlt=>?_) (fun hlt=>?_)
  ·have ha:i<a.length:=om
   have hb:i<b.length:=om
   repeat' (first|refine W ?_|refine ES ?_|refine QP ?_|refine ER ?_|refine QO ?_|refine y7 (fun _=>?_)|intro _)
   have hk:decide (a[i]=b[i])=(decide (a[i].key=b[i].key)&&(decide (a[i].val=b[i].val)&&true)):=by
    rw[show a[i]=⟨a[i].key,a[i].val⟩ from rfl,show b[i]=⟨b[i].key,b[i].val⟩ from rfl];simp[Ent.mk.injEq]
   rw[<- hk];refine qP (fun hc=>?_) (fun hc=>?_)
   ·repeat' first|refine Vz ?_|intro _
    refine d9 ?_;have hne:a[i]≠b[i]:=by simpa using hc
    have:a≠b:=fun e=>by subst e;exact hne rfl
    simp[J6,this]
   ·repeat' first|refine Vz ?_|intro _
    exact o6 (i+1) ⟨rfl,rfl,rfl,trivial⟩ slr ⟨ha,Qq g2 ha hb (by simpa using hc)⟩ om
  ·repeat' first|refine Vz ?_|intro _
   refine d9 ?_;rw[List.take_of_length_le om,List.take_of_length_le om] at g2;simp[J6,g2]⟩
instance b2D {root:Hsh}{a b:Bs}{i m:Int}{p:List Hsh}{xs:List AV}{id:Option Value}[hx:Hshs xs p]:Ans prog GL 443 [hA root,.agg 2 [str a,str b],.agg 3 [int i,int m,.sl 32 xs id]] (m<=9223372036854775807) (j3 (xV root ⟨a,b⟩ ⟨i,m,p⟩)):=⟨fun hl=>by
 have h:=hx.out;subst h;refine qF func443 ntmps443 fun _ hs=>?_;repeat' first|refine Vz ?_|intro _
 rw[xV];generalize yA m i (aW ⟨a,b⟩) p=o;cases o
 ·repeat' (first|refine W ?_|refine ES ?_|refine QP ?_|refine ER ?_|refine QO ?_|refine y7 (fun _=>?_)|intro _)
  exact d9 rfl
 ·repeat' (first|refine W ?_|refine ES ?_|refine QP ?_|refine ER ?_|refine QO ?_|refine y7 (fun _=>?_)|intro _)
  exact d9 rfl⟩
end Go.Proofs.YtjhnaegpchadiaaGreatDoor

namespace Go.Proofs.YtjhnaegpchadiaaGreatDoor
open Go Go.RowKit Tw Av



end Go.Proofs.YtjhnaegpchadiaaGreatDoor

namespace Av
open Go Go.RowKit Tw
section
variable {P:Program} {N:Nat} {ops:Array Oper} {Q:Exit->Act->World->Prop} {rest:List Oper} {s:Base} {e:Env} {m:List Piece} {d:Nat} {ty:TypeId} {pos:String} {af:Array Edge}
end
end Av
namespace Go.Proofs.YtjhnaegpchadiaaGreatDoor
open Go Go.RowKit Tw Av
end Go.Proofs.YtjhnaegpchadiaaGreatDoor

namespace Go.Proofs.YtjhnaegpchadiaaGreatDoor
open Go Go.RowKit Tw Av


end Go.Proofs.YtjhnaegpchadiaaGreatDoor

namespace Av
open Go Go.RowKit Tw
section
variable {P:Program} {N:Nat} {s:Base} {e:Env} {m:List Piece}
end
end Av
namespace Go.Proofs.YtjhnaegpchadiaaGreatDoor
open Go Go.RowKit Tw Av
instance {k:Nat}:ImpT (.lit (.slice none 0 0)) (.sl k [] (some (.slice none 0 0))):=⟨ImpC.nilS⟩
end Go.Proofs.YtjhnaegpchadiaaGreatDoor

namespace Go.Proofs.YtjhnaegpchadiaaGreatDoor
open Go Go.RowKit Tw Av
end Go.Proofs.YtjhnaegpchadiaaGreatDoor

namespace Go.Proofs.YtjhnaegpchadiaaGreatDoor
open Go Go.RowKit Tw Av Go.Proofs.Tryz
def Y7 (p:Prf):Bs:=p9 105 p.a++p9 109 p.m++M3 112 (p.p.map fun h=>h.l)
def gQ (l:List Ent):List Bs:=l.flatMap fun x=>[x.key,x.val]
def Z7 (l:List Ent)(p:Prf):Bs:=M3 101 (gQ l)++j6 80 (Y7 p)
def jF (g:Gp):Bs:=p9 109 g.n++Z7 g.l g.a++Z7 g.r g.b
instance b2t {i m:Int}{p:List Hsh}{xs:List AV}{id:Option Value}[hx:Hshs xs p]:Ans prog GL 89 [.agg 3 [int i,int m,.sl 32 xs id]] (p.length<=1000000/\i<=9223372036854775807/\m<=9223372036854775807) (str (Y7 ⟨i,m,p⟩)):=⟨fun hp=>by
 obtain⟨hn,hi,hmm⟩:=hp;have h:=hx.out;subst h;have hm:(p.map hA).length=p.length:=llm _;refine qF func89 ntmps89 fun _ hs=>?_;repeat' first|refine Yz ?_|intro _
 rename_i g1;refine aT 3 (Imp.nil (k:=1)) ?_;refine Q6 (fun ok w h=>h.full 9 1 none 0) ?_;refine y5 (α:=Nat × Value) (fun q=>[(1,ptr g1),(3,.sl 1 (((p.take q.1).map fun h=>h.l).map str) (some q.2)),(4,int q.1)]) (fun q=>[.tail 9 1 q.2,.var g1 46 (.agg 3 [int i,int m,.sl 32 (p.map hA) id])]) (fun q=>q.1<=p.length) (fun q=>p.length-q.1) (0,.slice none 0 0) ⟨rfl,rfl,rfl,trivial⟩ slr (Nat.zero_le _) ?_;rintro⟨j,v⟩ hj;dsimp only at hj ⊢;repeat' first|refine Yz ?_|intro _
 refine o8 (fun hlt=>?_) (fun hlt=>?_)
 ·have hil:j<p.length:=om
  have hml:((p.take j).map fun h=>h.l).length<=1000000:=by simp;omega
  repeat' first|refine Yz ?_|intro _
  refine I1 (fun v'=>?_);repeat' first|refine Yz ?_|intro _
  refine o6 (j+1,v') ⟨rfl,?_,rfl,trivial⟩ slr hil (by dsimp only;omega);rw[List.take_succ_eq_append_getElem hil,List.map_append,List.map_append];rfl
 ·obtain rfl:j=p.length:=by omega
  rw[List.take_length];have hml:(p.map fun h=>h.l).length<=8000000:=by simp;omega
  repeat' first|refine Yz ?_|intro _
  exact d9 rfl⟩

theorem IV (l:List Ent):(gQ l).length=l.length*2:=by
 induction l with
 | nil=>rfl
 | cons x l ih=>simp[gQ] at ih ⊢;omega
theorem Rn {l:List Ent}{j:Nat}(h:j<l.length):gQ (l.take (j+1))=gQ (l.take j)++[l[j].key,l[j].val]:=by
 unfold gQ;rw[List.take_succ_eq_append_getElem h,List.flatMap_append];simp
instance {l:List Ent}{p:Prf}:LenLe (Z7 l p) 33554438:=⟨by
 have h1:=sO 101 ((gQ l).flatMap (j6 101));have h2:=sO 80 (Y7 p);have e:Z7 l p=j6 101 ((gQ l).flatMap (j6 101))++j6 80 (Y7 p):=rfl;rw[e,lla];omega⟩
instance b2r {l:List Ent}{i m:Int}{p:List Hsh}{xs ys:List AV}{id id2:Option Value}[hx:Ents xs l][hy:Hshs ys p]:Ans prog GL 200 [.sl 2 xs id,.agg 3 [int i,int m,.sl 32 ys id2]] (l.length<=1000000/\p.length<=1000000/\i<=9223372036854775807/\m<=9223372036854775807) (str (Z7 l ⟨i,m,p⟩)):=⟨fun hp=>by
 obtain⟨hll,hn,hi,hmm⟩:=hp;have h:=hx.out;have h2:=hy.out;subst h h2;have hm:(l.map D5).length=l.length:=llm _;refine qF func200 ntmps200 fun _ hs=>?_;repeat' first|refine Yz ?_|intro _
 rename_i g1;refine aT 5 (Imp.nil (k:=1)) ?_;refine Q6 (fun ok w h=>h.full 9 1 none 0) ?_;refine y5 (α:=Nat × Value) (fun q=>[(0,.sl 2 (l.map D5) id),(3,ptr g1),(5,.sl 1 ((gQ (l.take q.1)).map str) (some q.2)),(6,int q.1)]) (fun q=>[.tail 9 1 q.2,.var g1 46 (.agg 3 [int i,int m,.sl 32 (p.map hA) id2])]) (fun q=>q.1<=l.length) (fun q=>l.length-q.1) (0,.slice none 0 0) ⟨rfl,rfl,rfl,rfl,trivial⟩ slr (Nat.zero_le _) ?_;rintro⟨j,v⟩ hj;dsimp only at hj ⊢;repeat' first|refine Yz ?_|intro _
 refine o8 (fun hlt=>?_) (fun hlt=>?_)
 ·have hil:j<l.length:=om
  have hml:(gQ (l.take j)).length<=2000000:=by rw[IV];simp;omega
  repeat' first|refine Yz ?_|intro _
  refine I1 (fun v'=>?_);repeat' first|refine Yz ?_|intro _
  refine I1 (fun v''=>?_);repeat' first|refine Yz ?_|intro _
  refine o6 (j+1,v'') ⟨rfl,rfl,?_,rfl,trivial⟩ slr hil (by dsimp only;omega);rw[Rn hil,List.map_append];simp;rfl
 ·obtain rfl:j=l.length:=by omega
  rw[List.take_length];have hml:(gQ l).length<=8000000:=by rw[IV];omega
  repeat' first|refine Yz ?_|intro _
  exact d9 rfl⟩
structure GapW (g:Gp):Prop where
 l:g.l.length<=1000000/\g.a.p.length<=1000000/\g.a.a<=9223372036854775807/\g.a.m<=9223372036854775807
 r:g.r.length<=1000000/\g.b.p.length<=1000000/\g.b.a<=9223372036854775807/\g.b.m<=9223372036854775807
 n:g.n<=9223372036854775807
instance b2H {n i m i2 m2:Int}{l r:List Ent}{p q:List Hsh}{xs ys zs ws:List AV}{d1 d2 d3 d4:Option Value}[hx:Ents xs l][hy:Ents ys r][hz:Hshs zs p][hw:Hshs ws q]:Ans prog GL 90 [.agg 9 [int n,.sl 2 xs d1,.sl 2 ys d2,.agg 3 [int i,int m,.sl 32 zs d3],.agg 3 [int i2,int m2,.sl 32 ws d4]]] (GapW ⟨n,l,r,⟨i,m,p⟩,⟨i2,m2,q⟩⟩) (str (jF ⟨n,l,r,⟨i,m,p⟩,⟨i2,m2,q⟩⟩)):=⟨fun hp=>by
 obtain⟨hl,hr,hn⟩:=hp;dsimp only at hl hr hn;refine qF func90 ntmps90 fun _ hs=>?_;repeat' first|refine Yz ?_|intro _
 exact d9 rfl⟩

def jR (s:Bs):Bs:=j5 105 8 s false
def nA (s:Bs):Bool:=K8 105 2000 s false
def eX (s:Bs):Bs:=j5 109 8 (jR s) (nA s)
def iT (s:Bs):Bool:=K8 109 2000 (jR s) (nA s)
def pI (s:Bs):List Bs:=fO 112 16 32 (eX s) (iT s)
def xG (s:Bs):Int:=R3 (j5 112 16777215 (eX s) (iT s)) (bH 112 16 32 (eX s) (iT s))
def DZ (s:Bs):Prf:=⟨K3 105 2000 s false,K3 109 2000 (jR s) (nA s),(pI s).map R9⟩
def jZ (t:Bs):Bool:=decide (t.length=32)
def jS (s:Bs):Bool:=(pI s).all jZ&&decide (xG s=0)
def fK (s:Bs):Prf:=if jS s=true then DZ s else mK
def bY (s:Bs):Int:=if jS s=true then 0 else 10
theorem PH {s:Bs}:j5 105 8 s false=jR s:=rfl
theorem ZI {s:Bs}:K8 105 2000 s false=nA s:=rfl
theorem PE {s:Bs}:j5 109 8 (jR s) (nA s)=eX s:=rfl
theorem ZH {s:Bs}:K8 109 2000 (jR s) (nA s)=iT s:=rfl
theorem JN {s:Bs}:fO 112 16 32 (eX s) (iT s)=pI s:=rfl
theorem YY (s:Bs):(jR s).length<=s.length/\(eX s).length<=s.length:=by
 have h1:=(X5 105 8 s false).1;have h2:=(X5 109 8 (jR s) (nA s)).1;rw[PH] at h1;rw[PE] at h2;exact⟨h1,om⟩
theorem Mg {l:List Bs}{i:Nat}(hi:i<l.length)(h:(l.take i).all jZ=true)(h2:jZ l[i]=true):(l.take (i+1)).all jZ=true:=by
 rw[List.take_succ_eq_append_getElem hi,List.all_append,h];simp[h2]
theorem Mh {l:List Bs}{i:Nat}(hi:i<l.length)(h2:jZ l[i]=false):l.all jZ=false:=by
 rw[List.all_eq_false];exact⟨l[i],List.getElem_mem hi,by simp[h2]⟩
theorem EK {c many most:Int}{s:Bs}{b:Bool}(h0:0<=many):((fO c many most s b).length:Int)<=many:=by
 unfold fO xM;split
 ·simpa using h0
 ·rename_i h;unfold vH at h;by_cases hm:many<((yR c most (D8 c 16777215 s b)).1.length:Int)
  ·rw[dT hm] at h;simp at h
  ·omega
theorem Eo {a m:Int}:ImpC (.agg 3 [int a,int m,.lit (.slice none 0 0)]) (.agg 3 [int a,int m,.sl 32 [] (some (.slice none 0 0))]):=fun ok w cs h=>by
 rw[RC] at h ⊢;refine⟨h.1,?_⟩;have h:=h.2;rw[RCs] at h ⊢;obtain⟨a1,b1,e1,f1,h⟩:=h;refine⟨a1,b1,e1,f1,?_⟩;rw[RCs] at h ⊢;obtain⟨a1,b1,e1,f1,h⟩:=h;refine⟨a1,b1,e1,f1,?_⟩;rw[RCs] at h ⊢;obtain⟨a1,b1,e1,f1,h⟩:=h;exact⟨a1,b1,e1,ImpC.nilT _ _ _ f1,h⟩
theorem SI:Imp (.tup [.agg 3 [.lit (.int .i64 0),.lit (.int .i64 0),.lit (.slice none 0 0)],int 10]) (.tup [jA mK,int 10]):=(inferInstance:ImpR _ (.tup [.agg 3 [int 0,int 0,.sl 32 [] none],int 10])).imp
theorem a0h {a m:Int}{xs:List AV}{v:Value}{e:Int}:Imp (.tup [.agg 3 [int a,int m,.sl 32 xs (some v)],int e]) (.tup [.agg 3 [int a,int m,.sl 32 xs none],int e]):=ImpR.imp
instance a1B {s:Bs}:Ans prog GL 308 [str s] (s.length<=1000000000) (.tup [jA (fK s),int (bY s)]):=⟨fun hl=>by
 obtain⟨l1,l2⟩:=YY s;have e1:(jR s).length=(j5 105 8 s false).length:=rfl;have e2:(eX s).length=(j5 109 8 (j5 105 8 s false) (K8 105 2000 s false)).length:=rfl;refine qF func308 ntmps308 fun _ hs=>?_;repeat' first|refine Yz ?_|intro _
 refine I8 (args:=[str s]) [] _ (by rw[hs];exact sP) (fun u m1 hh=>?_) lpr;obtain⟨gr,rfl,rfl⟩:=hh;repeat' first|refine Yz ?_|intro _
 rw[PH,ZI,PE,ZH,JN];have hE:xG s=R3 (j5 112 16777215 (eX s) (iT s)) (bH 112 16 32 (eX s) (iT s)):=rfl;have hV:DZ s=⟨K3 105 2000 s false,K3 109 2000 (jR s) (nA s),(pI s).map R9⟩:=rfl;have hK:jS s=((pI s).all jZ&&decide (xG s=0)):=rfl;have hn:=EK (c:=112) (many:=16) (most:=32) (s:=eX s) (b:=iT s) dc;rw[JN] at hn;rw[fK,bY,hK,hV,hE];generalize pI s=L at *;generalize j5 112 16777215 (eX s) (iT s)=S5 at *;generalize bH 112 16 32 (eX s) (iT s)=B5 at *;generalize K3 105 2000 s false=a at *;generalize K3 109 2000 (jR s) (nA s)=m at *;have hml:(L.map str).length=L.length:=llm _;rename_i g2 g5;refine gK (g:=g5) (v':=.agg 3 [int a,int m,.sl 32 [] (some (.slice none 0 0))]) Eo ?_;refine Q6 (fun ok w h=>h.full 34 32 none 0) ?_;refine VR (α:={q:List Hsh × Value // L.all jZ=true->q.1=L.map R9}) (fun _=>[(2,ptr g2),(4,ptr gr),(5,ptr g5),(6,int (if L.all jZ=true then 0 else 10))])
  (fun q=>[.var g5 46 (.agg 3 [int a,int m,.sl 32 (q.1.1.map hA) (some q.1.2)]),.var gr 286 (C8 S5 B5),.var g2 46 (.agg 3 [int 0,int 0,A7])]) ?_ (fun q=>?_)
 ·refine y5 (α:=Nat × Value) (fun q=>[(2,ptr g2),(4,ptr gr),(5,ptr g5),(6,int 0),(19,.sl 1 (L.map str) none),(20,int L.length),(21,int q.1)])
   (fun q=>[.tail 34 32 q.2,.var g5 46 (.agg 3 [int a,int m,.sl 32 (((L.take q.1).map R9).map hA) (some q.2)]),.var gr 286 (C8 S5 B5),.var g2 46 (.agg 3 [int 0,int 0,A7])])
   (fun q=>q.1<=L.length/\(L.take q.1).all jZ=true) (fun q=>L.length-q.1) (0,.slice none 0 0) ⟨rfl,rfl,rfl,rfl,rfl,by rw[<- hml];rfl,rfl,trivial⟩ slr ⟨Nat.zero_le _,rfl⟩ ?_
  rintro⟨i,v⟩ ⟨h1,h2⟩;dsimp only at h1 h2 ⊢;repeat' first|refine Yz ?_|intro _
  refine o8 (fun hlt=>?_) (fun hlt=>?_)
  ·have hil:i<L.length:=om
   have hml2:((L.take i).map R9).length<=16:=by simp;omega
   repeat' first|refine Yz ?_|intro _
   by_cases h32:L[i].length=32
   ·rw[if_pos h32];repeat' first|refine Yz ?_|intro _
    refine I1 (fun v'=>?_);repeat' first|refine Yz ?_|intro _
    refine o6 (i+1,v') ⟨rfl,rfl,rfl,rfl,rfl,rfl,rfl,trivial⟩ ?_ ⟨hil,Mg hil h2 (dT h32)⟩ (by dsimp only;omega);dsimp only;rw[List.take_succ_eq_append_getElem hil,List.map_append,List.map_append];exact List.Sublist.cons _ slr
   ·rw[if_neg h32];repeat' first|refine Yz ?_|intro _
    have hno:=Mh hil (show jZ L[i]=false from dZ h32);refine X7 ⟨((L.take i).map R9,v),fun h=>by rw[hno] at h;cases h⟩ ⟨rfl,rfl,rfl,?_,trivial⟩ ?_
    ·rw[hno];rfl
    ·exact x9
  ·obtain rfl:i=L.length:=by omega
   rw[List.take_length] at h2 ⊢;repeat' first|refine Yz ?_|intro _
   refine X7 ⟨(L.map R9,v),fun _=>rfl⟩ ⟨rfl,rfl,rfl,?_,trivial⟩ ?_
   ·rw[h2];rfl
   ·exact x9
 obtain⟨⟨ps,v⟩,hq⟩:=q;dsimp only at hq ⊢;cases ha:L.all jZ
 ·repeat' first|refine Yz ?_|intro _
  refine E5 ?_;exact SI
 rw[hq ha];by_cases hE0:R3 S5 B5=0
 ·rw[dT hE0];repeat' first|refine Yz ?_|intro _
  refine E5 ?_;exact a0h
 ·rw[dZ hE0];repeat' first|refine Yz ?_|intro _
  refine E5 ?_;exact SI⟩

theorem Em:Imp (.tup [.agg 3 [.lit (.int .i64 0),.lit (.int .i64 0),.lit (.slice none 0 0)],j3 false]) (.tup [jA mK,j3 false]):=(inferInstance:ImpR _ (.tup [.agg 3 [int 0,int 0,.sl 32 [] none],j3 false])).imp
theorem a0g {a m:Int}{xs:List AV}{v:Value}{e:Bool}:Imp (.tup [.agg 3 [int a,int m,.sl 32 xs (some v)],j3 e]) (.tup [.agg 3 [int a,int m,.sl 32 xs none],j3 e]):=ImpR.imp
instance b1Q {s:Bs}:Ans prog GL 367 [str s] (s.length<=1000000000) (.tup [jA (fK s),j3 (jS s)]):=⟨fun hl=>by
 obtain⟨l1,l2⟩:=YY s;have e1:(jR s).length=(j5 105 8 s false).length:=rfl;have e2:(eX s).length=(j5 109 8 (j5 105 8 s false) (K8 105 2000 s false)).length:=rfl;refine qF func367 ntmps367 fun _ hs=>?_;repeat' first|refine Yz ?_|intro _
 rw[PH,ZI,PE,ZH,JN];have hE:xG s=R3 (j5 112 16777215 (eX s) (iT s)) (bH 112 16 32 (eX s) (iT s)):=rfl;have hV:DZ s=⟨K3 105 2000 s false,K3 109 2000 (jR s) (nA s),(pI s).map R9⟩:=rfl;have hK:jS s=((pI s).all jZ&&decide (xG s=0)):=rfl;have hn:=EK (c:=112) (many:=16) (most:=32) (s:=eX s) (b:=iT s) dc;rw[JN] at hn;rw[fK,hK,hV,hE];generalize pI s=L at *;generalize j5 112 16777215 (eX s) (iT s)=S5 at *;generalize bH 112 16 32 (eX s) (iT s)=B5 at *;generalize K3 105 2000 s false=a at *;generalize K3 109 2000 (jR s) (nA s)=m at *;have hml:(L.map str).length=L.length:=llm _;by_cases hE0:R3 S5 B5=0
 rotate_left
 ·rw[dZ hE0,Bool.and_false];repeat' first|refine Yz ?_|intro _
  refine E5 ?_;exact Em
 rw[dT hE0,Bool.and_true];repeat' first|refine Yz ?_|intro _
 rename_i g2 gr g5;refine gK (g:=g5) (v':=.agg 3 [int a,int m,.sl 32 [] (some (.slice none 0 0))]) Eo ?_;refine Q6 (fun ok w h=>h.full 34 32 none 0) ?_;refine y5 (α:=Nat × Value) (fun q=>[(2,ptr g2),(5,ptr g5),(6,.sl 1 (L.map str) none),(7,int q.1)])
   (fun q=>[.tail 34 32 q.2,.var g5 46 (.agg 3 [int a,int m,.sl 32 (((L.take q.1).map R9).map hA) (some q.2)]),.var g2 46 (.agg 3 [int 0,int 0,A7])])
   (fun q=>q.1<=L.length/\(L.take q.1).all jZ=true) (fun q=>L.length-q.1) (0,.slice none 0 0) ⟨rfl,rfl,rfl,rfl,trivial⟩ ?_ ⟨Nat.zero_le _,rfl⟩ ?_
 focus
  exact x9
 rintro⟨i,v⟩ ⟨h1,h2⟩;dsimp only at h1 h2 ⊢;repeat' first|refine Yz ?_|intro _
 refine o8 (fun hlt=>?_) (fun hlt=>?_);rotate_left
 ·obtain rfl:i=L.length:=by omega
  rw[List.take_length] at h2 ⊢;rw[h2];repeat' first|refine Yz ?_|intro _
  refine E5 ?_;exact a0g
 have hil:i<L.length:=om
 have hml2:((L.take i).map R9).length<=16:=by simp;omega
 repeat' first|refine Yz ?_|intro _
 by_cases h32:L[i].length=32
 rotate_left
 ·have hno:=Mh hil (show jZ L[i]=false from dZ h32);rw[hno];repeat' first|refine Yz ?_|intro _
  refine E5 ?_;exact Em
 repeat' first|refine Yz ?_|intro _
 rename_i g8;refine y5 (α:=Nat) (fun k=>[(2,ptr g2),(5,ptr g5),(6,.sl 1 (L.map str) none),(7,int i),(8,ptr g8),(9,int k)])
   (fun k=>[.var g8 34 (.agg 32 ((eG L[i] k).map w9)),.tail 34 32 v,.var g5 46 (.agg 3 [int a,int m,.sl 32 (((L.take i).map R9).map hA) (some v)]),.var g2 46 (.agg 3 [int 0,int 0,A7])])
   (fun k=>k<=32) (fun k=>32-k) 0 ⟨rfl,rfl,rfl,rfl,rfl,rfl,trivial⟩ slr (Nat.zero_le _) ?_
 intro k hk;repeat' first|refine Yz ?_|intro _
 refine o8 (fun hlt2=>?_) (fun hlt2=>?_)
 ·have hkl:k<32:=om
  have hkx:k<L[i].length:=om
  repeat' first|refine Yz ?_|intro _
  refine sH k ?_ (List.getElem?_eq_getElem hkx);repeat' first|refine Yz ?_|intro _
  refine O4 k ?_;refine kM (j:=k) (ps:=(eG L[i] k).map w9) (by simp only[List.length_map];rw[KX h32 hk];exact hkl) ?_;repeat' first|refine Yz ?_|intro _
  rw[show ((eG L[i] k).map w9).set k (w9 (L[i])[k])=((eG L[i] k).set k (L[i])[k]).map w9 by rw[List.map_set],RU h32 hkl];exact o6 (k+1) ⟨rfl,rfl,rfl,rfl,rfl,rfl,trivial⟩ slr hkl om
 ·obtain rfl:k=32:=by omega
  have hA1:AV.agg 32 ((eG L[i] 32).map w9)=hA (R9 L[i]):=by rw[RX h32,hA,LC h32]
  rw[hA1];repeat' first|refine Yz ?_|intro _
  refine I1 (fun v'=>?_);repeat' first|refine Yz ?_|intro _
  refine o6 (i+1,v') ⟨rfl,rfl,rfl,rfl,trivial⟩ ?_ ⟨hil,Mg hil h2 (dT h32)⟩ (by dsimp only;omega);dsimp only;rw[List.take_succ_eq_append_getElem hil,List.map_append,List.map_append];exact List.Sublist.cons _ slr⟩
instance a1n {s:Bs}:Ans prog GL 315 [str s] (s.length<=1000000000) (.tup [jA (fK s),int (bY s)]):=⟨fun hl=>by
 refine qF func315 ntmps315 fun _ hs=>?_;repeat' first|refine Yz ?_|intro _
 rw[fK,bY];cases h:jS s
 ·repeat' first|refine Yz ?_|intro _
  refine E5 ?_;exact SI
 ·repeat' first|refine Yz ?_|intro _
  exact d9 rfl⟩

def rC (s:Bs)(b:Bool):List Bs:=fO 101 2 4000 s b
def kQ (s:Bs)(b:Bool):Bs:=j5 101 16777215 s b
def mZ (s:Bs)(b:Bool):Bool:=bH 101 2 4000 s b
def mY (s:Bs)(b:Bool):Bs:=D8 80 4000 (kQ s b) (mZ s b)
def kP (s:Bs)(b:Bool):Bs:=j5 80 4000 (kQ s b) (mZ s b)
def fI (s:Bs)(b:Bool):Bool:=z8 80 4000 (kQ s b) (mZ s b)
def fH (s:Bs)(b:Bool):Bool:=decide (bY (mY s b)=0)&&(!fI s b&&decide ((rC s b).length≠1))
def YC:List Bs->List Ent
 | [k,v]=>[⟨k,v⟩]
 | _=>[]
def pF (s:Bs)(b:Bool):List Ent:=if fH s b=true then YC (rC s b) else []
def lL (s:Bs)(b:Bool):Prf:=if fH s b=true then fK (mY s b) else mK
theorem JM {s:Bs}{b:Bool}:j5 101 16777215 s b=kQ s b:=rfl
theorem PD {s:Bs}{b:Bool}:bH 101 2 4000 s b=mZ s b:=rfl
theorem JL {s:Bs}{b:Bool}:D8 80 4000 (kQ s b) (mZ s b)=mY s b:=rfl
theorem JK {s:Bs}{b:Bool}:j5 80 4000 (kQ s b) (mZ s b)=kP s b:=rfl
theorem OZ {s:Bs}{b:Bool}:z8 80 4000 (kQ s b) (mZ s b)=fI s b:=rfl
theorem EC {s:Bs}{b:Bool}:fO 101 2 4000 s b=rC s b:=rfl
theorem JB (s:Bs)(b:Bool):(kQ s b).length<=s.length/\(kP s b).length<=s.length/\(mY s b).length<=4000:=by
 have h1:=(X5 101 16777215 s b).1;have h2:=(X5 80 4000 (kQ s b) (mZ s b)).1;have h3:=(uI 80 4000 (kQ s b) (mZ s b)).2 dc;rw[JM] at h1;rw[JK] at h2;rw[JL] at h3;exact⟨h1,om,om⟩
theorem SH {e:Bool}:Imp (.tup [.lit (.slice none 0 0),.agg 3 [.lit (.int .i64 0),.lit (.int .i64 0),.lit (.slice none 0 0)],j3 e]) (.tup [.sl 2 [] none,jA mK,j3 e]):=(inferInstance:ImpR _ (.tup [.sl 2 [] none,.agg 3 [int 0,int 0,.sl 32 [] none],j3 e])).imp
theorem a0f {e:Bool}{x:AV}:Imp (.tup [.lit (.slice none 0 0),x,j3 e]) (.tup [.sl 2 [] none,x,j3 e]):=ImpR.imp
instance b1Y {g:Nat}{s:Bs}{b:Bool}:AnsM prog GL 366 g [] 286 (C8 s b) (s.length<=1000000000) (.tup [.sl 2 ((pF s b).map D5) none,jA (lL s b),j3 (fH s b)]) (C8 (kP s b) (fI s b)):=⟨fun hl=>by
 obtain⟨l1,l2,l3⟩:=JB s b;have e1:(kQ s b).length=(j5 101 16777215 s b).length:=rfl;have e2:(mY s b).length=(D8 80 4000 (j5 101 16777215 s b) (bH 101 2 4000 s b)).length:=rfl;refine qF func366 ntmps366 fun _ hs=>?_;repeat' first|refine Yz ?_|intro _
 rw[JM,PD,JL,JK,OZ,EC];have hX:=EK (c:=101) (many:=2) (most:=4000) (s:=s) (b:=b) dc;rw[EC] at hX;rw[pF,lL];have hO:fH s b=(decide (bY (mY s b)=0)&&(!fI s b&&decide ((rC s b).length≠1))):=rfl;rw[hO];generalize rC s b=X at *;generalize mY s b=t at *;generalize kP s b=S2 at *;generalize fI s b=B2 at *;have hml:(X.map str).length=X.length:=llm _;by_cases hE:bY t=0
 rotate_left
 ·rw[dZ hE,Bool.false_and];repeat' first|refine Yz ?_|intro _
  refine Y6 (.tup [.sl 2 [] none,jA mK,j3 false]) [.var g 286 (C8 S2 B2)] ?_ ⟨rfl,rfl⟩ ?_
  focus
   exact SH
  exact x9
 rw[dT hE,Bool.true_and];repeat' first|refine Yz ?_|intro _
 cases B2;rotate_left
 ·repeat' first|refine Yz ?_|intro _
  refine Y6 (.tup [.sl 2 [] none,jA mK,j3 false]) [.var g 286 (C8 S2 true)] ?_ ⟨rfl,rfl⟩ ?_
  focus
   exact SH
  exact x9
 repeat' first|refine Yz ?_|intro _
 rcases X with _|⟨k,_|⟨v,_|⟨w,X⟩⟩⟩
 ·repeat' first|refine Yz ?_|intro _
  refine Y6 (.tup [.sl 2 [] none,jA (fK t),j3 true]) [.var g 286 (C8 S2 false)] ?_ ⟨rfl,rfl⟩ ?_
  focus
   exact a0f
  exact x9
 ·repeat' first|refine Yz ?_|intro _
  refine Y6 (.tup [.sl 2 [] none,jA mK,j3 false]) [.var g 286 (C8 S2 false)] ?_ ⟨rfl,rfl⟩ ?_
  focus
   exact SH
  exact x9
 ·repeat' first|refine Yz ?_|intro _
  refine Y6 (.tup [.sl 2 [.agg 2 [str k,str v]] none,jA (fK t),j3 true]) [.var g 286 (C8 S2 false)] ?_ ⟨rfl,rfl⟩ ?_
  focus
   exact fun _ _ _ h=>h
  exact x9
 ·simp at hX;omega⟩
def Q9 (s:Bs):Bs:=j5 109 8 s false
def Z8 (s:Bs):Bool:=K8 109 2000 s false
def O9 (s:Bs):Bs:=kP (Q9 s) (Z8 s)
def V4 (s:Bs):Bool:=fI (Q9 s) (Z8 s)
def xI (s:Bs):Int:=R3 (kP (O9 s) (V4 s)) (fI (O9 s) (V4 s))
def ED (s:Bs):Gp:=⟨K3 109 2000 s false,pF (Q9 s) (Z8 s),pF (O9 s) (V4 s),lL (Q9 s) (Z8 s),lL (O9 s) (V4 s)⟩
def zM (s:Bs):Bool:=fH (Q9 s) (Z8 s)&&(fH (O9 s) (V4 s)&&decide (xI s=0))
def kT (s:Bs):Gp:=if zM s=true then ED s else qQ
def jU (s:Bs):Int:=if zM s=true then 0 else 10
theorem OY {s:Bs}:j5 109 8 s false=Q9 s:=rfl
theorem ZE {s:Bs}:K8 109 2000 s false=Z8 s:=rfl
theorem OX {s:Bs}:kP (Q9 s) (Z8 s)=O9 s:=rfl
theorem OW {s:Bs}:fI (Q9 s) (Z8 s)=V4 s:=rfl
theorem ZN (s:Bs):(Q9 s).length<=s.length/\(O9 s).length<=s.length:=by
 have h1:=(X5 109 8 s false).1;have h2:=(JB (Q9 s) (Z8 s)).2.1;rw[OY] at h1;rw[OX] at h2;exact⟨h1,om⟩
theorem wL:Imp (.tup [.agg 9 [.lit (.int .i64 0),.lit (.slice none 0 0),.lit (.slice none 0 0),.agg 3 [.lit (.int .i64 0),.lit (.int .i64 0),.lit (.slice none 0 0)],.agg 3 [.lit (.int .i64 0),.lit (.int .i64 0),.lit (.slice none 0 0)]],int 10]) (.tup [AJ qQ,int 10]):=
 (inferInstance:ImpR _ (.tup [.agg 9 [int 0,.sl 2 [] none,.sl 2 [] none,.agg 3 [int 0,int 0,.sl 32 [] none],.agg 3 [int 0,int 0,.sl 32 [] none]],int 10])).imp
instance a1h {s:Bs}:Ans prog GL 309 [str s] (s.length<=1000000000) (.tup [AJ (kT s),int (jU s)]):=⟨fun hl=>by
 obtain⟨l1,l2⟩:=ZN s;have e1:(Q9 s).length=(j5 109 8 s false).length:=rfl;have e2:(O9 s).length=(kP (j5 109 8 s false) (K8 109 2000 s false)).length:=rfl;refine qF func309 ntmps309 fun _ hs=>?_;repeat' first|refine Yz ?_|intro _
 refine I8 (args:=[str s]) [] _ (by rw[hs];exact sP) (fun u m1 hh=>?_) lpr;obtain⟨gr,rfl,rfl⟩:=hh;repeat' first|refine Yz ?_|intro _
 rw[OY,ZE,OX,OW];have hE:xI s=R3 (kP (O9 s) (V4 s)) (fI (O9 s) (V4 s)):=rfl;have hV:ED s=⟨K3 109 2000 s false,pF (Q9 s) (Z8 s),pF (O9 s) (V4 s),lL (Q9 s) (Z8 s),lL (O9 s) (V4 s)⟩:=rfl;have hK:zM s=(fH (Q9 s) (Z8 s)&&(fH (O9 s) (V4 s)&&decide (xI s=0))):=rfl;rw[kT,jU,hK,hV,hE];cases h1:fH (Q9 s) (Z8 s)
 ·repeat' first|refine Yz ?_|intro _
  refine E5 ?_;exact wL
 cases h2:fH (O9 s) (V4 s)
 ·repeat' first|refine Yz ?_|intro _
  refine E5 ?_;exact wL
 repeat' first|refine Yz ?_|intro _
 by_cases h3:R3 (kP (O9 s) (V4 s)) (fI (O9 s) (V4 s))=0
 ·rw[dT h3];repeat' first|refine Yz ?_|intro _
  exact d9 rfl
 ·rw[dZ h3];repeat' first|refine Yz ?_|intro _
  refine E5 ?_;exact wL⟩
class RgSl (a:AV)(l:List Ent):Prop where
 imp:ImpT a (.sl 2 (l.map D5) none)
theorem a0i {n:Int}{a b p q:AV}{l r:List Ent}[h1:RgSl a l][h2:RgSl b r]:Imp (.tup [.agg 9 [int n,a,b,p,q],int 0]) (.tup [.agg 9 [int n,.sl 2 (l.map D5) none,.sl 2 (r.map D5) none,p,q],int 0]):=
 have:=h1.imp;have:=h2.imp
 ImpR.imp
instance : RgSl (.lit (.slice none 0 0)) [] := ⟨(inferInstance : ImpT _ (.sl 2 [] none))⟩
instance {k v:Bs}:RgSl (.sl 2 [.agg 2 [str k,str v]] none) [⟨k,v⟩]:=⟨(inferInstance:ImpT _ (.sl 2 [.agg 2 [str k,str v]] none))⟩
theorem Rz {s:Bs}:fI s true=true:=by
 have h1:mZ s true=true:=by
  unfold mZ bH vH z8;rw[wC];rfl
 unfold fI z8;rw[h1,wC];rfl
theorem Tu {s:Bs}{b:Bool}(h:R3 s b=0):b=false:=by
 cases b
 ·rfl
 ·unfold R3 at h;rw[if_pos (.inl rfl)] at h;cases h
theorem YW {s:Bs}:decide (bY s=0)=jS s:=by
 unfold bY;cases jS s <;> rfl
instance a1l {s:Bs}:Ans prog GL 316 [str s] (s.length<=1000000000) (.tup [AJ (kT s),int (jU s)]):=⟨fun hl=>by
 obtain⟨l1,l2⟩:=ZN s;obtain⟨l3,l4,l5⟩:=JB (Q9 s) (Z8 s);obtain⟨l6,l7,l8⟩:=JB (O9 s) (V4 s);have f1:j5 109 8 s false=Q9 s:=rfl;have e1:(Q9 s).length=(j5 109 8 s false).length:=rfl;have e2:(kQ (Q9 s) (Z8 s)).length=(j5 101 16777215 (j5 109 8 s false) (K8 109 2000 s false)).length:=rfl;have e3:(O9 s).length=(j5 80 4000 (j5 101 16777215 (j5 109 8 s false) (K8 109 2000 s false)) (bH 101 2 4000 (j5 109 8 s false) (K8 109 2000 s false))).length:=rfl;have e4:(kQ (O9 s) (V4 s)).length=(j5 101 16777215 (j5 80 4000 (j5 101 16777215 (j5 109 8 s false) (K8 109 2000 s false)) (bH 101 2 4000 (j5 109 8 s false) (K8 109 2000 s false))) (z8 80 4000 (j5 101 16777215 (j5 109 8 s false) (K8 109 2000 s false)) (bH 101 2 4000 (j5 109 8 s false) (K8 109 2000 s false)))).length:=rfl;refine qF func316 ntmps316 fun _ hs=>?_;repeat' first|refine Yz ?_|intro _
 rw[OY,ZE,JM (s:=Q9 s),PD (s:=Q9 s),JL (s:=Q9 s),JK (s:=Q9 s),OZ (s:=Q9 s),EC (s:=Q9 s),OX,OW,JM (s:=O9 s),PD (s:=O9 s),JL (s:=O9 s),JK (s:=O9 s),OZ (s:=O9 s),EC (s:=O9 s)];have hE:xI s=R3 (kP (O9 s) (V4 s)) (fI (O9 s) (V4 s)):=rfl;have hV:ED s=⟨K3 109 2000 s false,pF (Q9 s) (Z8 s),pF (O9 s) (V4 s),lL (Q9 s) (Z8 s),lL (O9 s) (V4 s)⟩:=rfl;have hK:zM s=(fH (Q9 s) (Z8 s)&&(fH (O9 s) (V4 s)&&decide (xI s=0))):=rfl;rw[kT,jU,hK,hV,hE];by_cases h3:R3 (kP (O9 s) (V4 s)) (fI (O9 s) (V4 s))=0
 rotate_left
 ·rw[dZ h3,Bool.and_false,Bool.and_false];repeat' first|refine Yz ?_|intro _
  refine E5 ?_;exact wL
 have b2:fI (O9 s) (V4 s)=false:=Tu h3;have b1:fI (Q9 s) (Z8 s)=false:=by
  rw[OW];cases hb:V4 s
  ·rfl
  ·rw[hb,Rz] at b2;cases b2
 have o1:fH (Q9 s) (Z8 s)=(jS (mY (Q9 s) (Z8 s))&&decide ((rC (Q9 s) (Z8 s)).length≠1)):=by
  unfold fH;rw[YW,b1];rfl
 have o2:fH (O9 s) (V4 s)=(jS (mY (O9 s) (V4 s))&&decide ((rC (O9 s) (V4 s)).length≠1)):=by
  unfold fH;rw[YW,b2];rfl
 have hX1:=EK (c:=101) (many:=2) (most:=4000) (s:=Q9 s) (b:=Z8 s) dc;have hX2:=EK (c:=101) (many:=2) (most:=4000) (s:=O9 s) (b:=V4 s) dc;rw[EC] at hX1 hX2;rw[dT h3,Bool.and_true,pF,pF,lL,lL,o1,o2];generalize rC (Q9 s) (Z8 s)=X1 at *;generalize rC (O9 s) (V4 s)=X2 at *;generalize mY (Q9 s) (Z8 s)=t1 at *;generalize mY (O9 s) (V4 s)=t2 at *;generalize K3 109 2000 s false=n at *;have hne:∀ (x:Bs),decide (([x]:List Bs).length≠1)=false:=fun _=>rfl;have hn0:decide (([]:List Bs).length≠1)=true:=rfl;have hn2:∀ (x y:Bs),decide (([x,y]:List Bs).length≠1)=true:=fun _ _=>rfl;rcases X1 with _|⟨k,_|⟨v,_|⟨w,X1⟩⟩⟩
 rotate_left
 ·rw[hne,Bool.and_false,Bool.false_and];repeat' first|refine Yz ?_|intro _
  refine E5 ?_;exact wL
 rotate_left
 ·simp at hX1;omega
 all_goals
  rcases X2 with _|⟨k2,_|⟨v2,_|⟨w2,X2⟩⟩⟩
  rotate_left
  focus
   rw[hne,Bool.and_false,Bool.and_false];repeat' first|refine Yz ?_|intro _
   refine E5 ?_;exact wL
  rotate_left
  focus
   simp at hX2;omega
  all_goals
   first|rw[hn0,Bool.and_true]|rw[hn2,Bool.and_true]
   try rw[hn0]
   try rw[hn2]
   try rw[Bool.and_true]
   repeat' first|refine Yz ?_|intro _
   cases hr1:jS t1
   focus
    repeat' first|refine Yz ?_|intro _
    refine E5 ?_;exact wL
   cases hr2:jS t2
   focus
    repeat' first|refine Yz ?_|intro _
    refine E5 ?_;exact wL
   repeat' first|refine Yz ?_|intro _
   refine E5 ?_;simp only[Bool.and_self,if_true,YC];exact a0i⟩
end Go.Proofs.YtjhnaegpchadiaaGreatDoor

namespace Go.Proofs.YtjhnaegpchadiaaGreatDoor
open Go Go.RowKit Tw Av
end Go.Proofs.YtjhnaegpchadiaaGreatDoor
