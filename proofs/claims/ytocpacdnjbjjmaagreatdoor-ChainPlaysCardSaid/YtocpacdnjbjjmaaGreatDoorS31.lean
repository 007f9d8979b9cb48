/- . -/
import Derived.Test.YtocpacdnjbjjmaaGreatDoorS30
set_option maxHeartbeats 64000000
namespace Go.Proofs.YtocpacdnjbjjmaaGreatDoor
open Go Go.RowKit Tw Av
def mG:List WayStep->Hsh->List Hsh->Hsh
 | [],h,_=>h
 | t::ts,h,p=>if t.1=true then pK (mG ts h p.dropLast) (p.getLastD J7) else pK (p.getLastD J7) (mG ts h p.dropLast)
def yC (n i:Int)(h:Hsh)(p:List Hsh):Option Hsh:=if i<0\/n<=i\/2000<n\/(dK n i).length≠p.length then none else some (rW n (mG (dK n i) h p))
theorem PY:∀ (f n i:Nat),n<=f->(turns n i).length<=n
 | 0,n,i,h=>by
  obtain rfl:n=0:=by omega
  simp[turns,tQ]
 | f+1,n,i,h=>by
  by_cases hn:1<n
  ·rw[JO n i hn,List.length_cons];split
   ·have:=PY f ((n+1) / 2) i om;omega
   ·have:=PY f (n-(n+1) / 2) (i-(n+1) / 2) om;omega
  ·obtain rfl|rfl:n=0\/n=1:=by omega
   ·simp[turns,tQ]
   ·simp[PX]
theorem Vr {n i:Nat}(h:i<n)(hn:n<=2000):dK (n:Int) (i:Int)=turns n i:=by
 unfold dK;rw[if_neg om];simp
theorem a3K {α:Type}(l:List α)(x z:α):(l++[x]).getLastD z=x:=by simp[List.getLastD_eq_getLast?]
theorem Wo (t:WayStep)(ts:List WayStep)(h x:Hsh)(p:List Hsh):mG (t::ts) h (p++[x])=if t.1=true then pK (mG ts h p) x else pK x (mG ts h p):=by
 rw[mG,List.dropLast_concat,a3K]
theorem Vq {n i:Nat}(_h:i<n)(hn:1<n):turns n i=(decide (i<(n+1) / 2),(n+1) / 2,n-(n+1) / 2)::turns (if i<(n+1) / 2 then (n+1) / 2 else n-(n+1) / 2) (if i<(n+1) / 2 then i else i-(n+1) / 2):=by
 rw[JO n i hn];split <;> rfl

theorem OA {n i:Int}{h:Hsh}{p:List Hsh}(hb:i<0\/n<=i\/2000<n\/(dK n i).length≠p.length):yC n i h p=none:=if_pos hb
theorem a3C {n i:Int}{h:Hsh}{p:List Hsh}(hb:¬ (i<0\/n<=i\/2000<n\/(dK n i).length≠p.length)):yC n i h p=some (rW n (mG (dK n i) h p)):=if_neg hb
end Go.Proofs.YtocpacdnjbjjmaaGreatDoor

namespace Go.Proofs.YtocpacdnjbjjmaaGreatDoor
open Go Go.RowKit Tw Av Go.Proofs.Tryz
theorem Wn (N:Nat):N<=2000->∀ {n i:Nat} {h:Hsh} {p:List Hsh} {xs:List AV} {id:Option Value} [Hshs xs p],Ans prog GL 398 [int n,int i,hA h,.sl 32 xs id] (n<=N/\i<n/\p.length=(turns n i).length) (hA (mG (turns n i) h p)):=by
 induction N with
 | zero=>exact fun _=>⟨fun hc=>absurd hc.2.1 om⟩
 | succ N ih=>
  intro hN n i h p xs id hx;have ih:=@ih om;refine⟨fun hc=>?_⟩;obtain⟨c1,c2,c3⟩:=hc;have hh:=hx.out;subst hh;have hm:(p.map hA).length=p.length:=llm _;refine qE func398 rfl ntmps398 rfl (fun _ hs=>?_);repeat' first|refine Wz ?_|intro _
  refine o9 (fun h1=>?_) (fun h1=>?_)
  ·obtain rfl:n=1:=by omega
   repeat' first|refine Wz ?_|intro _
   refine d9 ?_;rfl
  ·have hr:=Vq c2 om;have hk0:((n:Int)+1) / 2=(((n+1) / 2:Nat):Int):=by omega
   have hpb:p.length<=n:=by rw[c3];exact PY n n i (Nat.le_refl _)
   rw[hr,List.length_cons] at c3;have hpn:p.length-1<p.length:=by omega
   have hpe:p=p.take (p.length-1)++[p[p.length-1]]:=by
    rw[<- List.take_succ_eq_append_getElem hpn,show p.length-1+1=p.length by omega,List.take_length]
   have hup:∀ t ts,mG (t::ts) h p=if t.1=true then pK (mG ts h (p.take (p.length-1))) p[p.length-1] else pK p[p.length-1] (mG ts h (p.take (p.length-1))):=fun t ts=>by
    have:=Wo t ts h p[p.length-1] (p.take (p.length-1))
    rwa [<- hpe] at this
   have htl:((p.take (p.length-1)).drop 0).length=p.length-1:=sm
   repeat' first|refine Wz ?_|intro _
   rw[hk0];generalize hk:(n+1) / 2=k at *;refine Z0 (l:=p) (f:=hA) (p.length-1) hpn ?_;repeat' first|refine Wz ?_|intro _
   refine o9 (fun hlt=>?_) (fun hlt=>?_)
   ·have hik:i<k:=om
    rw[if_pos hik,if_pos hik] at hr c3;repeat' first|refine Wz ?_|intro _
    apply u7 [];exact rfl;exact rfl;kernel_rfl;intro _ _;refine wN 0 (p.length-1) ?_;exact j4 (o7 rfl rfl);apply u7 [];exact rfl;exact rfl;kernel_rfl;intro _ _;refine OT (hp:=by exact⟨om,hik,by rw[htl];omega⟩) ?_;exact j4 (o7 rfl rfl);repeat' first|refine Wz ?_|intro _
    refine d9 ?_;rw[hr,hup,if_pos (by simpa using hik),List.drop_zero];rfl
   ·have hik:¬ i<k:=om
    rw[if_neg hik,if_neg hik] at hr c3;repeat' first|refine Wz ?_|intro _
    have e1:(n:Int)-(k:Int)=((n-k:Nat):Int):=om
    have e2:(i:Int)-(k:Int)=((i-k:Nat):Int):=om
    rw[e1,e2];repeat' first|refine Wz ?_|intro _
    apply u7 [];exact rfl;exact rfl;kernel_rfl;intro _ _;refine wN 0 (p.length-1) ?_;exact j4 (o7 rfl rfl);apply u7 [];exact rfl;exact rfl;kernel_rfl;intro _ _;refine OT (hp:=by exact⟨om,om,by rw[htl];omega⟩) ?_;exact j4 (o7 rfl rfl);repeat' first|refine Wz ?_|intro _
    refine d9 ?_;rw[hr,hup,if_neg (by simpa using hik),List.drop_zero];rfl
instance b4z {n i:Nat}{h:Hsh}{p:List Hsh}{xs:List AV}{id:Option Value}[Hshs xs p]:Ans prog GL 398 [int n,int i,hA h,.sl 32 xs id] (n<=2000/\i<n/\p.length=(turns n i).length) (hA (mG (turns n i) h p)):=Wn 2000 (Nat.le_refl _)
instance b5J {n i:Int}{h:Hsh}{p:List Hsh}{xs:List AV}{id:Option Value}[hx:Hshs xs p]:Ans prog GL 343 [int n,int i,hA h,.sl 32 xs id] (n<=9223372036854775807) (.tup [hA ((yC n i h p).getD J7),j3 (yC n i h p).isSome]):=⟨fun hn=>by
 have hh:=hx.out;subst hh;have hmp:(p.map hA).length=p.length:=llm _;refine qE func343 rfl ntmps343 rfl (fun _ hs=>?_);repeat' first|refine Wz ?_|intro _
 refine Y5 (fun h1=>?_) (fun h1=>?_)
 ·repeat' first|refine Wz ?_|intro _
  refine d9 ?_;rw[OA (.inl h1)];rfl
 ·repeat' first|refine Wz ?_|intro _
  refine Y5 (fun h2=>?_) (fun h2=>?_)
  ·repeat' first|refine Wz ?_|intro _
   refine d9 ?_;rw[OA (.inr (.inl h2))];rfl
  ·repeat' first|refine Wz ?_|intro _
   refine Y5 (fun h3=>?_) (fun h3=>?_)
   ·repeat' first|refine Wz ?_|intro _
    refine d9 ?_;rw[OA (.inr (.inr (.inl h3)))];rfl
   ·repeat' first|refine Wz ?_|intro _
    refine o9 (fun h4=>?_) (fun h4=>?_)
    ·repeat' first|refine Wz ?_|intro _
     refine d9 ?_;rw[OA (.inr (.inr (.inr om)))];rfl
    ·rw[a3C (h:=h) (show ¬ (i<0\/n<=i\/2000<n\/(dK n i).length≠p.length) by omega)];obtain⟨N,rfl⟩:∃ N:Nat,n=N:=⟨n.toNat,om⟩;obtain⟨I,rfl⟩:∃ I:Nat,i=I:=⟨i.toNat,om⟩;have hw:dK (N:Int) (I:Int)=turns N I:=Vr om om;rw[hw] at h4 ⊢;repeat' first|refine Wz ?_|intro _
     refine d9 ?_;rfl⟩
end Go.Proofs.YtocpacdnjbjjmaaGreatDoor

namespace Go.Proofs.YtocpacdnjbjjmaaGreatDoor
open Go Go.RowKit Tw Av
theorem Xu {α:Type}{a b:List α}{i:Nat}(h:a.take i=b.take i)(ha:i<a.length)(hb:i<b.length)(he:a[i]=b[i]):a.take (i+1)=b.take (i+1):=by
 rw[List.take_succ_eq_append_getElem ha,List.take_succ_eq_append_getElem hb,h,he]



end Go.Proofs.YtocpacdnjbjjmaaGreatDoor

namespace Go.Proofs.YtocpacdnjbjjmaaGreatDoor
open Go Go.RowKit Tw Av Go.Proofs.Tryz
structure Prf where
 a:Int
 m:Int
 p:List Hsh
deriving DecidableEq
structure Gp where
 n:Int
 l:List Ent
 r:List Ent
 a:Prf
 b:Prf
deriving DecidableEq
abbrev iE (x:Prf):AV:=.agg 3 [int x.a,int x.m,.sl 32 (x.p.map hA) none]
abbrev BU (x:Gp):AV:=.agg 9 [int x.n,.sl 2 (x.l.map C8) none,.sl 2 (x.r.map C8) none,iE x.a,iE x.b]
def lZ:Prf:=⟨0,0,[]⟩
def vC:Gp:=⟨0,[],[],lZ,lZ⟩
def xV (root:Hsh)(x:Ent)(p:Prf):Bool:=(yC p.m p.a (aI x) p.p).isSome&&decide ((yC p.m p.a (aI x) p.p).getD J7=root)
def ZO (root:Hsh)(n:Int)(bes:Bs->Bool):List Ent->Prf->Bool
 | [],_=>true
 | [x],p=>bes x.key&&(decide (p.m=n)&&xV root x p)
 | _,_=>false
def a5k (root:Hsh)(g:Gp):Bool:=match g.l,g.r with
 | [],[]=>decide (g.n=0)&&decide (root=rW 0 (oN []))
 | [],_=>decide (g.b.a=0)
 | _,[]=>decide (g.a.a=g.n-1)
 | _,_=>decide (g.b.a=g.a.a+1)
def a2c (root:Hsh)(k:Bs)(g:Gp):Bool:=ZO root g.n (fun a=>blt a k) g.l g.a&&(ZO root g.n (fun a=>blt k a) g.r g.b&&a5k root g)
def Jf (l:List Ent)(k:Bs):Nat:=l.findIdx fun x=>!blt x.key k
def a3V (l:List Ent)(k:Bs):Bool:=decide (Jf l k<l.length/\(l.getD (Jf l k) ⟨[],[]⟩).key=k)
attribute [irreducible] a3V
instance b7S {a b:List Ent}{xs ys:List AV}{id id2:Option Value}[hx:Ents xs a][hy:Ents ys b]:Ans prog GL 19 [.sl 2 xs id,.sl 2 ys id2] True (j3 (decide (a=b))):=⟨fun _=>by
 have h1:=hx.out;have h2:=hy.out;subst h1 h2;have hma:(a.map C8).length=a.length:=llm _;have hmb:(b.map C8).length=b.length:=llm _;refine qE func19 rfl ntmps19 rfl (fun _ hs=>?_);refine uZ 0 (fun hb=>?_);have hb:=lJ hb;repeat' first|refine Vz ?_|intro _
 refine o9 (fun hne=>?_) (fun he=>?_)
 ·repeat' first|refine Vz ?_|intro _
  refine d9 ?_;have:a≠b:=fun e=>by subst e;exact hne rfl
  simp[I8,this]
 ·have hle:a.length=b.length:=om
  repeat' first|refine Vz ?_|intro _
  refine z8 (α:=Nat) (fun i=>[(0,.sl 2 (a.map C8) id),(1,.sl 2 (b.map C8) id2),(5,int i)]) (fun _=>[]) (fun i=>i<=a.length/\a.take i=b.take i) (fun i=>a.length-i) 0 ⟨rfl,rfl,rfl,trivial⟩ slr ⟨Nat.zero_le _,rfl⟩ ?_;rintro i ⟨g1,g2⟩;repeat' first|refine Vz ?_|intro _
  refine o9 (fun hlt=>?_) (fun hlt=>?_)
  ·have ha:i<a.length:=om
   have hb:i<b.length:=om
   repeat' (first|refine W ?_|refine AX ?_|refine LP ?_|refine AU ?_|refine LM ?_|refine G5 (fun _=>?_)|intro _)
   have hk:decide (a[i]=b[i])=(decide (a[i].key=b[i].key)&&(decide (a[i].val=b[i].val)&&true)):=by
    rw[show a[i]=⟨a[i].key,a[i].val⟩ from rfl,show b[i]=⟨b[i].key,b[i].val⟩ from rfl];simp[Ent.mk.injEq]
   rw[<- hk];refine qG (fun hc=>?_) (fun hc=>?_)
   ·repeat' first|refine Vz ?_|intro _
    refine d9 ?_;have hne:a[i]≠b[i]:=by simpa using hc
    have:a≠b:=fun e=>by subst e;exact hne rfl
    simp[I8,this]
   ·repeat' first|refine Vz ?_|intro _
    exact o6 (i+1) ⟨rfl,rfl,rfl,trivial⟩ slr ⟨ha,Xu g2 ha hb (by simpa using hc)⟩ om
  ·repeat' first|refine Vz ?_|intro _
   refine d9 ?_;rw[List.take_of_length_le om,List.take_of_length_le om] at g2;simp[I8,g2]⟩
instance b5E {root:Hsh}{a b:Bs}{i m:Int}{p:List Hsh}{xs:List AV}{id:Option Value}[hx:Hshs xs p]:Ans prog GL 279 [hA root,.agg 2 [str a,str b],.agg 3 [int i,int m,.sl 32 xs id]] (m<=9223372036854775807) (j3 (xV root ⟨a,b⟩ ⟨i,m,p⟩)):=⟨fun hl=>by
 have h:=hx.out;subst h;refine qE func279 rfl ntmps279 rfl (fun _ hs=>?_);repeat' first|refine Vz ?_|intro _
 rw[xV];generalize yC m i (aI ⟨a,b⟩) p=o;cases o
 ·repeat' (first|refine W ?_|refine AX ?_|refine LP ?_|refine AU ?_|refine LM ?_|refine G5 (fun _=>?_)|intro _)
  refine d9 ?_;rfl
 ·repeat' (first|refine W ?_|refine AX ?_|refine LP ?_|refine AU ?_|refine LM ?_|refine G5 (fun _=>?_)|intro _)
  refine d9 ?_;rfl⟩
end Go.Proofs.YtocpacdnjbjjmaaGreatDoor

namespace Go.Proofs.YtocpacdnjbjjmaaGreatDoor
open Go Go.RowKit Tw Av



end Go.Proofs.YtocpacdnjbjjmaaGreatDoor

namespace Av
open Go Go.RowKit Tw
section
variable {P:Program} {N:Nat} {ops:Array Oper} {Q:Exit->Act->World->Prop} {rest:List Oper} {s:Base} {e:Env} {m:List Piece} {d:Nat} {ty:TypeId} {pos:String} {af:Array Edge}
end
end Av
namespace Go.Proofs.YtocpacdnjbjjmaaGreatDoor
open Go Go.RowKit Tw Av
end Go.Proofs.YtocpacdnjbjjmaaGreatDoor

namespace Go.Proofs.YtocpacdnjbjjmaaGreatDoor
open Go Go.RowKit Tw Av


end Go.Proofs.YtocpacdnjbjjmaaGreatDoor

namespace Av
open Go Go.RowKit Tw
section
variable {P:Program} {N:Nat} {s:Base} {e:Env} {m:List Piece}
end
end Av
namespace Go.Proofs.YtocpacdnjbjjmaaGreatDoor
open Go Go.RowKit Tw Av
instance {k:Nat}:ImpT (.lit (.slice none 0 0)) (.sl k [] (some (.slice none 0 0))):=⟨ImpC.nilS⟩
end Go.Proofs.YtocpacdnjbjjmaaGreatDoor

namespace Go.Proofs.YtocpacdnjbjjmaaGreatDoor
open Go Go.RowKit Tw Av
end Go.Proofs.YtocpacdnjbjjmaaGreatDoor

namespace Go.Proofs.YtocpacdnjbjjmaaGreatDoor
open Go Go.RowKit Tw Av Go.Proofs.Tryz
def Y2 (p:Prf):Bs:=D8 105 p.a++D8 109 p.m++O7 112 (p.p.map fun h=>h.l)
def fT (l:List Ent):List Bs:=l.flatMap fun x=>[x.key,x.val]
def Z4 (l:List Ent)(p:Prf):Bs:=O7 101 (fT l)++o8 80 (Y2 p)
def jL (g:Gp):Bs:=D8 109 g.n++Z4 g.l g.a++Z4 g.r g.b
instance b5u {i m:Int}{p:List Hsh}{xs:List AV}{id:Option Value}[hx:Hshs xs p]:Ans prog GL 93 [.agg 3 [int i,int m,.sl 32 xs id]] (p.length<=1000000/\i<=9223372036854775807/\m<=9223372036854775807) (str (Y2 ⟨i,m,p⟩)):=⟨fun hp=>by
 obtain⟨hn,hi,hmm⟩:=hp;have h:=hx.out;subst h;have hm:(p.map hA).length=p.length:=llm _;refine qE func93 rfl ntmps93 rfl (fun _ hs=>?_);repeat' first|refine Yz ?_|intro _
 rename_i g1;refine aM 3 (Imp.nil (k:=1)) ?_;refine O5 (fun ok w h=>h.full 9 1 none 0) ?_;refine z8 (α:=Nat × Value) (fun q=>[(1,ptr g1),(3,.sl 1 (((p.take q.1).map fun h=>h.l).map str) (some q.2)),(4,int q.1)]) (fun q=>[.tail 9 1 q.2,.var g1 101 (.agg 3 [int i,int m,.sl 32 (p.map hA) id])]) (fun q=>q.1<=p.length) (fun q=>p.length-q.1) (0,.slice none 0 0) ⟨rfl,rfl,rfl,trivial⟩ slr (Nat.zero_le _) ?_;rintro⟨j,v⟩ hj;dsimp only at hj ⊢;repeat' first|refine Yz ?_|intro _
 refine o9 (fun hlt=>?_) (fun hlt=>?_)
 ·have hil:j<p.length:=om
  have hml:((p.take j).map fun h=>h.l).length<=1000000:=by simp;omega
  repeat' first|refine Yz ?_|intro _
  refine I4 (fun v'=>?_);repeat' first|refine Yz ?_|intro _
  refine o6 (j+1,v') ⟨rfl,?_,rfl,trivial⟩ slr hil (by dsimp only;omega);rw[List.take_succ_eq_append_getElem hil,List.map_append,List.map_append];rfl
 ·obtain rfl:j=p.length:=by omega
  rw[List.take_length];have hml:(p.map fun h=>h.l).length<=8000000:=by simp;omega
  repeat' first|refine Yz ?_|intro _
  refine d9 ?_;rfl⟩

theorem JW (l:List Ent):(fT l).length=l.length*2:=by
 induction l with
 | nil=>rfl
 | cons x l ih=>simp[fT] at ih ⊢;omega
theorem Yt {l:List Ent}{j:Nat}(h:j<l.length):fT (l.take (j+1))=fT (l.take j)++[l[j].key,l[j].val]:=by
 unfold fT;rw[List.take_succ_eq_append_getElem h,List.flatMap_append];simp
instance {l:List Ent}{p:Prf}:LenLe (Z4 l p) 33554438:=⟨by
 have h1:=rX 101 ((fT l).flatMap (o8 101));have h2:=rX 80 (Y2 p);have e:Z4 l p=o8 101 ((fT l).flatMap (o8 101))++o8 80 (Y2 p):=rfl;rw[e,lla];omega⟩
instance b5s {l:List Ent}{i m:Int}{p:List Hsh}{xs ys:List AV}{id id2:Option Value}[hx:Ents xs l][hy:Hshs ys p]:Ans prog GL 154 [.sl 2 xs id,.agg 3 [int i,int m,.sl 32 ys id2]] (l.length<=1000000/\p.length<=1000000/\i<=9223372036854775807/\m<=9223372036854775807) (str (Z4 l ⟨i,m,p⟩)):=⟨fun hp=>by
 obtain⟨hll,hn,hi,hmm⟩:=hp;have h:=hx.out;have h2:=hy.out;subst h h2;have hm:(l.map C8).length=l.length:=llm _;refine qE func154 rfl ntmps154 rfl (fun _ hs=>?_);repeat' first|refine Yz ?_|intro _
 rename_i g1;refine aM 5 (Imp.nil (k:=1)) ?_;refine O5 (fun ok w h=>h.full 9 1 none 0) ?_;refine z8 (α:=Nat × Value) (fun q=>[(0,.sl 2 (l.map C8) id),(3,ptr g1),(5,.sl 1 ((fT (l.take q.1)).map str) (some q.2)),(6,int q.1)]) (fun q=>[.tail 9 1 q.2,.var g1 101 (.agg 3 [int i,int m,.sl 32 (p.map hA) id2])]) (fun q=>q.1<=l.length) (fun q=>l.length-q.1) (0,.slice none 0 0) ⟨rfl,rfl,rfl,rfl,trivial⟩ slr (Nat.zero_le _) ?_;rintro⟨j,v⟩ hj;dsimp only at hj ⊢;repeat' first|refine Yz ?_|intro _
 refine o9 (fun hlt=>?_) (fun hlt=>?_)
 ·have hil:j<l.length:=om
  have hml:(fT (l.take j)).length<=2000000:=by rw[JW];simp;omega
  repeat' first|refine Yz ?_|intro _
  refine I4 (fun v'=>?_);repeat' first|refine Yz ?_|intro _
  refine I4 (fun v''=>?_);repeat' first|refine Yz ?_|intro _
  refine o6 (j+1,v'') ⟨rfl,rfl,?_,rfl,trivial⟩ slr hil (by dsimp only;omega);rw[Yt hil,List.map_append];simp;rfl
 ·obtain rfl:j=l.length:=by omega
  rw[List.take_length];have hml:(fT l).length<=8000000:=by rw[JW];omega
  repeat' first|refine Yz ?_|intro _
  refine d9 ?_;rfl⟩
structure GapW (g:Gp):Prop where
 l:g.l.length<=1000000/\g.a.p.length<=1000000/\g.a.a<=9223372036854775807/\g.a.m<=9223372036854775807
 r:g.r.length<=1000000/\g.b.p.length<=1000000/\g.b.a<=9223372036854775807/\g.b.m<=9223372036854775807
 n:g.n<=9223372036854775807
instance b5I {n i m i2 m2:Int}{l r:List Ent}{p q:List Hsh}{xs ys zs ws:List AV}{d1 d2 d3 d4:Option Value}[hx:Ents xs l][hy:Ents ys r][hz:Hshs zs p][hw:Hshs ws q]:Ans prog GL 94 [.agg 9 [int n,.sl 2 xs d1,.sl 2 ys d2,.agg 3 [int i,int m,.sl 32 zs d3],.agg 3 [int i2,int m2,.sl 32 ws d4]]] (GapW ⟨n,l,r,⟨i,m,p⟩,⟨i2,m2,q⟩⟩) (str (jL ⟨n,l,r,⟨i,m,p⟩,⟨i2,m2,q⟩⟩)):=⟨fun hp=>by
 obtain⟨hl,hr,hn⟩:=hp;dsimp only at hl hr hn;refine qE func94 rfl ntmps94 rfl (fun _ hs=>?_);repeat' first|refine Yz ?_|intro _
 refine d9 ?_;rfl⟩

def iX (s:Bs):Bs:=j5 105 8 s false
def mQ (s:Bs):Bool:=K3 105 2000 s false
def eH (s:Bs):Bs:=j5 109 8 (iX s) (mQ s)
def iC (s:Bs):Bool:=K3 109 2000 (iX s) (mQ s)
def oW (s:Bs):List Bs:=fG 112 16 32 (eH s) (iC s)
def xE (s:Bs):Int:=P5 (j5 112 16777215 (eH s) (iC s)) (aY 112 16 32 (eH s) (iC s))
def ER (s:Bs):Prf:=⟨J8 105 2000 s false,J8 109 2000 (iX s) (mQ s),(oW s).map R4⟩
def jD (t:Bs):Bool:=decide (t.length=32)
def iY (s:Bs):Bool:=(oW s).all jD&&decide (xE s=0)
def fF (s:Bs):Prf:=if iY s=true then ER s else lZ
def bT (s:Bs):Int:=if iY s=true then 0 else 10
theorem RF {s:Bs}:j5 105 8 s false=iX s:=rfl
theorem Bq {s:Bs}:K3 105 2000 s false=mQ s:=rfl
theorem RD {s:Bs}:j5 109 8 (iX s) (mQ s)=eH s:=rfl
theorem Bp {s:Bs}:K3 109 2000 (iX s) (mQ s)=iC s:=rfl
theorem KO {s:Bs}:fG 112 16 32 (eH s) (iC s)=oW s:=rfl
theorem Bf (s:Bs):(iX s).length<=s.length/\(eH s).length<=s.length:=by
 have h1:=(Q9 105 8 s false).1;have h2:=(Q9 109 8 (iX s) (mQ s)).1;rw[RF] at h1;rw[RD] at h2;exact⟨h1,om⟩
theorem Ps {l:List Bs}{i:Nat}(hi:i<l.length)(h:(l.take i).all jD=true)(h2:jD l[i]=true):(l.take (i+1)).all jD=true:=by
 rw[List.take_succ_eq_append_getElem hi,List.all_append,h];simp[h2]
theorem Pt {l:List Bs}{i:Nat}(hi:i<l.length)(h2:jD l[i]=false):l.all jD=false:=by
 rw[List.all_eq_false];exact⟨l[i],List.getElem_mem hi,by simp[h2]⟩
theorem FI {c many most:Int}{s:Bs}{b:Bool}(h0:0<=many):((fG c many most s b).length:Int)<=many:=by
 unfold fG xM;split
 ·simpa using h0
 ·rename_i h;unfold uX at h;by_cases hm:many<((yU c most (D5 c 16777215 s b)).1.length:Int)
  ·rw[dT hm] at h;simp at h
  ·omega
theorem Hm {a m:Int}:ImpC (.agg 3 [int a,int m,.lit (.slice none 0 0)]) (.agg 3 [int a,int m,.sl 32 [] (some (.slice none 0 0))]):=fun ok w cs h=>by
 rw[RC] at h ⊢;refine⟨h.1,?_⟩;have h:=h.2;rw[RCs] at h ⊢;obtain⟨a1,b1,e1,f1,h⟩:=h;refine⟨a1,b1,e1,f1,?_⟩;rw[RCs] at h ⊢;obtain⟨a1,b1,e1,f1,h⟩:=h;refine⟨a1,b1,e1,f1,?_⟩;rw[RCs] at h ⊢;obtain⟨a1,b1,e1,f1,h⟩:=h;exact⟨a1,b1,e1,ImpC.nilT _ _ _ f1,h⟩
theorem UG:Imp (.tup [.agg 3 [.lit (.int .i64 0),.lit (.int .i64 0),.lit (.slice none 0 0)],int 10]) (.tup [iE lZ,int 10]):=(inferInstance:ImpR _ (.tup [.agg 3 [int 0,int 0,.sl 32 [] none],int 10])).imp
theorem a3d {a m:Int}{xs:List AV}{v:Value}{e:Int}:Imp (.tup [.agg 3 [int a,int m,.sl 32 xs (some v)],int e]) (.tup [.agg 3 [int a,int m,.sl 32 xs none],int e]):=ImpR.imp
instance a4y {s:Bs}:Ans prog GL 181 [str s] (s.length<=1000000000) (.tup [iE (fF s),int (bT s)]):=⟨fun hl=>by
 obtain⟨l1,l2⟩:=Bf s;have e1:(iX s).length=(j5 105 8 s false).length:=rfl;have e2:(eH s).length=(j5 109 8 (j5 105 8 s false) (K3 105 2000 s false)).length:=rfl;refine qE func181 rfl ntmps181 rfl (fun _ hs=>?_);repeat' first|refine Yz ?_|intro _
 refine M3 (args:=[str s]) [] _ (by rw[hs];exact rY) (fun u m1 hh=>?_) lpr;obtain⟨gr,rfl,rfl⟩:=hh;repeat' first|refine Yz ?_|intro _
 rw[RF,Bq,RD,Bp,KO];have hE:xE s=P5 (j5 112 16777215 (eH s) (iC s)) (aY 112 16 32 (eH s) (iC s)):=rfl;have hV:ER s=⟨J8 105 2000 s false,J8 109 2000 (iX s) (mQ s),(oW s).map R4⟩:=rfl;have hK:iY s=((oW s).all jD&&decide (xE s=0)):=rfl;have hn:=FI (c:=112) (many:=16) (most:=32) (s:=eH s) (b:=iC s) dc;rw[KO] at hn;rw[fF,bT,hK,hV,hE];generalize oW s=L at *;generalize j5 112 16777215 (eH s) (iC s)=S5 at *;generalize aY 112 16 32 (eH s) (iC s)=B5 at *;generalize J8 105 2000 s false=a at *;generalize J8 109 2000 (iX s) (mQ s)=m at *;have hml:(L.map str).length=L.length:=llm _;rename_i g2 g5;refine gM (g:=g5) (v':=.agg 3 [int a,int m,.sl 32 [] (some (.slice none 0 0))]) Hm ?_;refine O5 (fun ok w h=>h.full 48 32 none 0) ?_;refine WY (α:={q:List Hsh × Value // L.all jD=true->q.1=L.map R4}) (fun _=>[(2,ptr g2),(4,ptr gr),(5,ptr g5),(6,int (if L.all jD=true then 0 else 10))])
  (fun q=>[.var g5 101 (.agg 3 [int a,int m,.sl 32 (q.1.1.map hA) (some q.1.2)]),.var gr 201 (A9 S5 B5),.var g2 101 (.agg 3 [int 0,int 0,P9])]) ?_ (fun q=>?_)
 ·refine z8 (α:=Nat × Value) (fun q=>[(2,ptr g2),(4,ptr gr),(5,ptr g5),(6,int 0),(19,.sl 1 (L.map str) none),(20,int L.length),(21,int q.1)])
   (fun q=>[.tail 48 32 q.2,.var g5 101 (.agg 3 [int a,int m,.sl 32 (((L.take q.1).map R4).map hA) (some q.2)]),.var gr 201 (A9 S5 B5),.var g2 101 (.agg 3 [int 0,int 0,P9])])
   (fun q=>q.1<=L.length/\(L.take q.1).all jD=true) (fun q=>L.length-q.1) (0,.slice none 0 0) ⟨rfl,rfl,rfl,rfl,rfl,by rw[<- hml];rfl,rfl,trivial⟩ slr ⟨Nat.zero_le _,rfl⟩ ?_
  rintro⟨i,v⟩ ⟨h1,h2⟩;dsimp only at h1 h2 ⊢;repeat' first|refine Yz ?_|intro _
  refine o9 (fun hlt=>?_) (fun hlt=>?_)
  ·have hil:i<L.length:=om
   have hml2:((L.take i).map R4).length<=16:=by simp;omega
   repeat' first|refine Yz ?_|intro _
   by_cases h32:L[i].length=32
   ·rw[if_pos h32];repeat' first|refine Yz ?_|intro _
    refine I4 (fun v'=>?_);repeat' first|refine Yz ?_|intro _
    refine o6 (i+1,v') ⟨rfl,rfl,rfl,rfl,rfl,rfl,rfl,trivial⟩ ?_ ⟨hil,Ps hil h2 (dT h32)⟩ (by dsimp only;omega);dsimp only;rw[List.take_succ_eq_append_getElem hil,List.map_append,List.map_append];exact List.Sublist.cons _ slr
   ·rw[if_neg h32];repeat' first|refine Yz ?_|intro _
    have hno:=Pt hil (show jD L[i]=false from dZ h32);refine fO ⟨((L.take i).map R4,v),fun h=>by rw[hno] at h;cases h⟩ ⟨rfl,rfl,rfl,?_,trivial⟩ ?_
    ·rw[hno];rfl
    ·exact r9
  ·obtain rfl:i=L.length:=by omega
   rw[List.take_length] at h2 ⊢;repeat' first|refine Yz ?_|intro _
   refine fO ⟨(L.map R4,v),fun _=>rfl⟩ ⟨rfl,rfl,rfl,?_,trivial⟩ ?_
   ·rw[h2];rfl
   ·exact r9
 obtain⟨⟨ps,v⟩,hq⟩:=q;dsimp only at hq ⊢;cases ha:L.all jD
 ·repeat' first|refine Yz ?_|intro _
  refine E9 ?_;exact UG
 rw[hq ha];by_cases hE0:P5 S5 B5=0
 ·rw[dT hE0];repeat' first|refine Yz ?_|intro _
  refine E9 ?_;exact a3d
 ·rw[dZ hE0];repeat' first|refine Yz ?_|intro _
  refine E9 ?_;exact UG⟩

theorem Hf:Imp (.tup [.agg 3 [.lit (.int .i64 0),.lit (.int .i64 0),.lit (.slice none 0 0)],j3 false]) (.tup [iE lZ,j3 false]):=(inferInstance:ImpR _ (.tup [.agg 3 [int 0,int 0,.sl 32 [] none],j3 false])).imp
theorem a3c {a m:Int}{xs:List AV}{v:Value}{e:Bool}:Imp (.tup [.agg 3 [int a,int m,.sl 32 xs (some v)],j3 e]) (.tup [.agg 3 [int a,int m,.sl 32 xs none],j3 e]):=ImpR.imp
instance b4W {s:Bs}:Ans prog GL 289 [str s] (s.length<=1000000000) (.tup [iE (fF s),j3 (iY s)]):=⟨fun hl=>by
 obtain⟨l1,l2⟩:=Bf s;have e1:(iX s).length=(j5 105 8 s false).length:=rfl;have e2:(eH s).length=(j5 109 8 (j5 105 8 s false) (K3 105 2000 s false)).length:=rfl;refine qE func289 rfl ntmps289 rfl (fun _ hs=>?_);repeat' first|refine Yz ?_|intro _
 rw[RF,Bq,RD,Bp,KO];have hE:xE s=P5 (j5 112 16777215 (eH s) (iC s)) (aY 112 16 32 (eH s) (iC s)):=rfl;have hV:ER s=⟨J8 105 2000 s false,J8 109 2000 (iX s) (mQ s),(oW s).map R4⟩:=rfl;have hK:iY s=((oW s).all jD&&decide (xE s=0)):=rfl;have hn:=FI (c:=112) (many:=16) (most:=32) (s:=eH s) (b:=iC s) dc;rw[KO] at hn;rw[fF,hK,hV,hE];generalize oW s=L at *;generalize j5 112 16777215 (eH s) (iC s)=S5 at *;generalize aY 112 16 32 (eH s) (iC s)=B5 at *;generalize J8 105 2000 s false=a at *;generalize J8 109 2000 (iX s) (mQ s)=m at *;have hml:(L.map str).length=L.length:=llm _;by_cases hE0:P5 S5 B5=0
 rotate_left
 ·rw[dZ hE0,Bool.and_false];repeat' first|refine Yz ?_|intro _
  refine E9 ?_;exact Hf
 rw[dT hE0,Bool.and_true];repeat' first|refine Yz ?_|intro _
 rename_i g2 gr g5;refine gM (g:=g5) (v':=.agg 3 [int a,int m,.sl 32 [] (some (.slice none 0 0))]) Hm ?_;refine O5 (fun ok w h=>h.full 48 32 none 0) ?_;refine z8 (α:=Nat × Value) (fun q=>[(2,ptr g2),(5,ptr g5),(6,.sl 1 (L.map str) none),(7,int q.1)])
   (fun q=>[.tail 48 32 q.2,.var g5 101 (.agg 3 [int a,int m,.sl 32 (((L.take q.1).map R4).map hA) (some q.2)]),.var g2 101 (.agg 3 [int 0,int 0,P9])])
   (fun q=>q.1<=L.length/\(L.take q.1).all jD=true) (fun q=>L.length-q.1) (0,.slice none 0 0) ⟨rfl,rfl,rfl,rfl,trivial⟩ ?_ ⟨Nat.zero_le _,rfl⟩ ?_
 focus
  exact r9
 rintro⟨i,v⟩ ⟨h1,h2⟩;dsimp only at h1 h2 ⊢;repeat' first|refine Yz ?_|intro _
 refine o9 (fun hlt=>?_) (fun hlt=>?_);rotate_left
 ·obtain rfl:i=L.length:=by omega
  rw[List.take_length] at h2 ⊢;rw[h2];repeat' first|refine Yz ?_|intro _
  refine E9 ?_;exact a3c
 have hil:i<L.length:=om
 have hml2:((L.take i).map R4).length<=16:=by simp;omega
 repeat' first|refine Yz ?_|intro _
 by_cases h32:L[i].length=32
 rotate_left
 ·have hno:=Pt hil (show jD L[i]=false from dZ h32);rw[hno];repeat' first|refine Yz ?_|intro _
  refine E9 ?_;exact Hf
 repeat' first|refine Yz ?_|intro _
 rename_i g8;refine z8 (α:=Nat) (fun k=>[(2,ptr g2),(5,ptr g5),(6,.sl 1 (L.map str) none),(7,int i),(8,ptr g8),(9,int k)])
   (fun k=>[.var g8 48 (.agg 32 ((dV L[i] k).map p9)),.tail 48 32 v,.var g5 101 (.agg 3 [int a,int m,.sl 32 (((L.take i).map R4).map hA) (some v)]),.var g2 101 (.agg 3 [int 0,int 0,P9])])
   (fun k=>k<=32) (fun k=>32-k) 0 ⟨rfl,rfl,rfl,rfl,rfl,rfl,trivial⟩ slr (Nat.zero_le _) ?_
 intro k hk;repeat' first|refine Yz ?_|intro _
 refine o9 (fun hlt2=>?_) (fun hlt2=>?_)
 ·have hkl:k<32:=om
  have hkx:k<L[i].length:=om
  repeat' first|refine Yz ?_|intro _
  refine rQ k ?_ (List.getElem?_eq_getElem hkx);repeat' first|refine Yz ?_|intro _
  refine O8 k ?_;refine lU (j:=k) (ps:=(dV L[i] k).map p9) (by simp only[List.length_map];rw[MM h32 hk];exact hkl) ?_;repeat' first|refine Yz ?_|intro _
  rw[show ((dV L[i] k).map p9).set k (p9 (L[i])[k])=((dV L[i] k).set k (L[i])[k]).map p9 by rw[List.map_set],TV h32 hkl];exact o6 (k+1) ⟨rfl,rfl,rfl,rfl,rfl,rfl,trivial⟩ slr hkl om
 ·obtain rfl:k=32:=by omega
  have hA1:AV.agg 32 ((dV L[i] 32).map p9)=hA (R4 L[i]):=by rw[TW h32,hA,MW h32]
  rw[hA1];repeat' first|refine Yz ?_|intro _
  refine I4 (fun v'=>?_);repeat' first|refine Yz ?_|intro _
  refine o6 (i+1,v') ⟨rfl,rfl,rfl,rfl,trivial⟩ ?_ ⟨hil,Ps hil h2 (dT h32)⟩ (by dsimp only;omega);dsimp only;rw[List.take_succ_eq_append_getElem hil,List.map_append,List.map_append];exact List.Sublist.cons _ slr⟩
instance a4n {s:Bs}:Ans prog GL 226 [str s] (s.length<=1000000000) (.tup [iE (fF s),int (bT s)]):=⟨fun hl=>by
 refine qE func226 rfl ntmps226 rfl (fun _ hs=>?_);repeat' first|refine Yz ?_|intro _
 rw[fF,bT];cases h:iY s
 ·repeat' first|refine Yz ?_|intro _
  refine E9 ?_;exact UG
 ·repeat' first|refine Yz ?_|intro _
  refine d9 ?_;rfl⟩

def qJ (s:Bs)(b:Bool):List Bs:=fG 101 2 4000 s b
def jV (s:Bs)(b:Bool):Bs:=j5 101 16777215 s b
def mP (s:Bs)(b:Bool):Bool:=aY 101 2 4000 s b
def mO (s:Bs)(b:Bool):Bs:=D5 80 4000 (jV s b) (mP s b)
def jU (s:Bs)(b:Bool):Bs:=j5 80 4000 (jV s b) (mP s b)
def fE (s:Bs)(b:Bool):Bool:=A7 80 4000 (jV s b) (mP s b)
def fD (s:Bs)(b:Bool):Bool:=decide (bT (mO s b)=0)&&(!fE s b&&decide ((qJ s b).length≠1))
def Ac:List Bs->List Ent
 | [k,v]=>[⟨k,v⟩]
 | _=>[]
def oU (s:Bs)(b:Bool):List Ent:=if fD s b=true then Ac (qJ s b) else []
def kV (s:Bs)(b:Bool):Prf:=if fD s b=true then fF (mO s b) else lZ
theorem KN {s:Bs}{b:Bool}:j5 101 16777215 s b=jV s b:=rfl
theorem RB {s:Bs}{b:Bool}:aY 101 2 4000 s b=mP s b:=rfl
theorem KM {s:Bs}{b:Bool}:D5 80 4000 (jV s b) (mP s b)=mO s b:=rfl
theorem KL {s:Bs}{b:Bool}:j5 80 4000 (jV s b) (mP s b)=jU s b:=rfl
theorem RA {s:Bs}{b:Bool}:A7 80 4000 (jV s b) (mP s b)=fE s b:=rfl
theorem ET {s:Bs}{b:Bool}:fG 101 2 4000 s b=qJ s b:=rfl
theorem KC (s:Bs)(b:Bool):(jV s b).length<=s.length/\(jU s b).length<=s.length/\(mO s b).length<=4000:=by
 have h1:=(Q9 101 16777215 s b).1;have h2:=(Q9 80 4000 (jV s b) (mP s b)).1;have h3:=(uA 80 4000 (jV s b) (mP s b)).2 dc;rw[KN] at h1;rw[KL] at h2;rw[KM] at h3;exact⟨h1,om,om⟩
theorem UF {e:Bool}:Imp (.tup [.lit (.slice none 0 0),.agg 3 [.lit (.int .i64 0),.lit (.int .i64 0),.lit (.slice none 0 0)],j3 e]) (.tup [.sl 2 [] none,iE lZ,j3 e]):=(inferInstance:ImpR _ (.tup [.sl 2 [] none,.agg 3 [int 0,int 0,.sl 32 [] none],j3 e])).imp
theorem a3b {e:Bool}{x:AV}:Imp (.tup [.lit (.slice none 0 0),x,j3 e]) (.tup [.sl 2 [] none,x,j3 e]):=ImpR.imp
instance b4Z {g:Nat}{s:Bs}{b:Bool}:AnsM prog GL 242 g [] 201 (A9 s b) (s.length<=1000000000) (.tup [.sl 2 ((oU s b).map C8) none,iE (kV s b),j3 (fD s b)]) (A9 (jU s b) (fE s b)):=⟨fun hl=>by
 obtain⟨l1,l2,l3⟩:=KC s b;have e1:(jV s b).length=(j5 101 16777215 s b).length:=rfl;have e2:(mO s b).length=(D5 80 4000 (j5 101 16777215 s b) (aY 101 2 4000 s b)).length:=rfl;refine qE func242 rfl ntmps242 rfl (fun _ hs=>?_);repeat' first|refine Yz ?_|intro _
 rw[KN,RB,KM,KL,RA,ET];have hX:=FI (c:=101) (many:=2) (most:=4000) (s:=s) (b:=b) dc;rw[ET] at hX;rw[oU,kV];have hO:fD s b=(decide (bT (mO s b)=0)&&(!fE s b&&decide ((qJ s b).length≠1))):=rfl;rw[hO];generalize qJ s b=X at *;generalize mO s b=t at *;generalize jU s b=S2 at *;generalize fE s b=B2 at *;have hml:(X.map str).length=X.length:=llm _;by_cases hE:bT t=0
 rotate_left
 ·rw[dZ hE,Bool.false_and];repeat' first|refine Yz ?_|intro _
  refine U8 (.tup [.sl 2 [] none,iE lZ,j3 false]) [.var g 201 (A9 S2 B2)] ?_ ⟨rfl,rfl⟩ ?_
  focus
   exact UF
  exact r9
 rw[dT hE,Bool.true_and];repeat' first|refine Yz ?_|intro _
 cases B2;rotate_left
 ·repeat' first|refine Yz ?_|intro _
  refine U8 (.tup [.sl 2 [] none,iE lZ,j3 false]) [.var g 201 (A9 S2 true)] ?_ ⟨rfl,rfl⟩ ?_
  focus
   exact UF
  exact r9
 repeat' first|refine Yz ?_|intro _
 rcases X with _|⟨k,_|⟨v,_|⟨w,X⟩⟩⟩
 ·repeat' first|refine Yz ?_|intro _
  refine U8 (.tup [.sl 2 [] none,iE (fF t),j3 true]) [.var g 201 (A9 S2 false)] ?_ ⟨rfl,rfl⟩ ?_
  focus
   exact a3b
  exact r9
 ·repeat' first|refine Yz ?_|intro _
  refine U8 (.tup [.sl 2 [] none,iE lZ,j3 false]) [.var g 201 (A9 S2 false)] ?_ ⟨rfl,rfl⟩ ?_
  focus
   exact UF
  exact r9
 ·repeat' first|refine Yz ?_|intro _
  refine U8 (.tup [.sl 2 [.agg 2 [str k,str v]] none,iE (fF t),j3 true]) [.var g 201 (A9 S2 false)] ?_ ⟨rfl,rfl⟩ ?_
  focus
   exact fun _ _ _ h=>h
  exact r9
 ·simp at hX;omega⟩
def O9 (s:Bs):Bs:=j5 109 8 s false
def Z5 (s:Bs):Bool:=K3 109 2000 s false
def N8 (s:Bs):Bs:=jU (O9 s) (Z5 s)
def R8 (s:Bs):Bool:=fE (O9 s) (Z5 s)
def xG (s:Bs):Int:=P5 (jU (N8 s) (R8 s)) (fE (N8 s) (R8 s))
def EW (s:Bs):Gp:=⟨J8 109 2000 s false,oU (O9 s) (Z5 s),oU (N8 s) (R8 s),kV (O9 s) (Z5 s),kV (N8 s) (R8 s)⟩
def zX (s:Bs):Bool:=fD (O9 s) (Z5 s)&&(fD (N8 s) (R8 s)&&decide (xG s=0))
def kC (s:Bs):Gp:=if zX s=true then EW s else vC
def jA (s:Bs):Int:=if zX s=true then 0 else 10
theorem QZ {s:Bs}:j5 109 8 s false=O9 s:=rfl
theorem Bl {s:Bs}:K3 109 2000 s false=Z5 s:=rfl
theorem QY {s:Bs}:jU (O9 s) (Z5 s)=N8 s:=rfl
theorem QX {s:Bs}:fE (O9 s) (Z5 s)=R8 s:=rfl
theorem Bw (s:Bs):(O9 s).length<=s.length/\(N8 s).length<=s.length:=by
 have h1:=(Q9 109 8 s false).1;have h2:=(KC (O9 s) (Z5 s)).2.1;rw[QZ] at h1;rw[QY] at h2;exact⟨h1,om⟩
theorem vX:Imp (.tup [.agg 9 [.lit (.int .i64 0),.lit (.slice none 0 0),.lit (.slice none 0 0),.agg 3 [.lit (.int .i64 0),.lit (.int .i64 0),.lit (.slice none 0 0)],.agg 3 [.lit (.int .i64 0),.lit (.int .i64 0),.lit (.slice none 0 0)]],int 10]) (.tup [BU vC,int 10]):=
 (inferInstance:ImpR _ (.tup [.agg 9 [int 0,.sl 2 [] none,.sl 2 [] none,.agg 3 [int 0,int 0,.sl 32 [] none],.agg 3 [int 0,int 0,.sl 32 [] none]],int 10])).imp
instance a4f {s:Bs}:Ans prog GL 182 [str s] (s.length<=1000000000) (.tup [BU (kC s),int (jA s)]):=⟨fun hl=>by
 obtain⟨l1,l2⟩:=Bw s;have e1:(O9 s).length=(j5 109 8 s false).length:=rfl;have e2:(N8 s).length=(jU (j5 109 8 s false) (K3 109 2000 s false)).length:=rfl;refine qE func182 rfl ntmps182 rfl (fun _ hs=>?_);repeat' first|refine Yz ?_|intro _
 refine M3 (args:=[str s]) [] _ (by rw[hs];exact rY) (fun u m1 hh=>?_) lpr;obtain⟨gr,rfl,rfl⟩:=hh;repeat' first|refine Yz ?_|intro _
 rw[QZ,Bl,QY,QX];have hE:xG s=P5 (jU (N8 s) (R8 s)) (fE (N8 s) (R8 s)):=rfl;have hV:EW s=⟨J8 109 2000 s false,oU (O9 s) (Z5 s),oU (N8 s) (R8 s),kV (O9 s) (Z5 s),kV (N8 s) (R8 s)⟩:=rfl;have hK:zX s=(fD (O9 s) (Z5 s)&&(fD (N8 s) (R8 s)&&decide (xG s=0))):=rfl;rw[kC,jA,hK,hV,hE];cases h1:fD (O9 s) (Z5 s)
 ·repeat' first|refine Yz ?_|intro _
  refine E9 ?_;exact vX
 cases h2:fD (N8 s) (R8 s)
 ·repeat' first|refine Yz ?_|intro _
  refine E9 ?_;exact vX
 repeat' first|refine Yz ?_|intro _
 by_cases h3:P5 (jU (N8 s) (R8 s)) (fE (N8 s) (R8 s))=0
 ·rw[dT h3];repeat' first|refine Yz ?_|intro _
  refine d9 ?_;rfl
 ·rw[dZ h3];repeat' first|refine Yz ?_|intro _
  refine E9 ?_;exact vX⟩
class RgSl (a:AV)(l:List Ent):Prop where
 imp:ImpT a (.sl 2 (l.map C8) none)
theorem a3e {n:Int}{a b p q:AV}{l r:List Ent}[h1:RgSl a l][h2:RgSl b r]:Imp (.tup [.agg 9 [int n,a,b,p,q],int 0]) (.tup [.agg 9 [int n,.sl 2 (l.map C8) none,.sl 2 (r.map C8) none,p,q],int 0]):=
 have:=h1.imp;have:=h2.imp
 ImpR.imp
instance : RgSl (.lit (.slice none 0 0)) [] := ⟨(inferInstance : ImpT _ (.sl 2 [] none))⟩
instance {k v:Bs}:RgSl (.sl 2 [.agg 2 [str k,str v]] none) [⟨k,v⟩]:=⟨(inferInstance:ImpT _ (.sl 2 [.agg 2 [str k,str v]] none))⟩
theorem Ze {s:Bs}:fE s true=true:=by
 have h1:mP s true=true:=by
  unfold mP aY uX A7;rw[vN];rfl
 unfold fE A7;rw[h1,vN];rfl
theorem a0l {s:Bs}{b:Bool}(h:P5 s b=0):b=false:=by
 cases b
 ·rfl
 ·unfold P5 at h;rw[if_pos (.inl rfl)] at h;cases h
theorem Bd {s:Bs}:decide (bT s=0)=iY s:=by
 unfold bT;cases iY s <;> rfl
instance a4l {s:Bs}:Ans prog GL 227 [str s] (s.length<=1000000000) (.tup [BU (kC s),int (jA s)]):=⟨fun hl=>by
 obtain⟨l1,l2⟩:=Bw s;obtain⟨l3,l4,l5⟩:=KC (O9 s) (Z5 s);obtain⟨l6,l7,l8⟩:=KC (N8 s) (R8 s);have f1:j5 109 8 s false=O9 s:=rfl;have e1:(O9 s).length=(j5 109 8 s false).length:=rfl;have e2:(jV (O9 s) (Z5 s)).length=(j5 101 16777215 (j5 109 8 s false) (K3 109 2000 s false)).length:=rfl;have e3:(N8 s).length=(j5 80 4000 (j5 101 16777215 (j5 109 8 s false) (K3 109 2000 s false)) (aY 101 2 4000 (j5 109 8 s false) (K3 109 2000 s false))).length:=rfl;have e4:(jV (N8 s) (R8 s)).length=(j5 101 16777215 (j5 80 4000 (j5 101 16777215 (j5 109 8 s false) (K3 109 2000 s false)) (aY 101 2 4000 (j5 109 8 s false) (K3 109 2000 s false))) (A7 80 4000 (j5 101 16777215 (j5 109 8 s false) (K3 109 2000 s false)) (aY 101 2 4000 (j5 109 8 s false) (K3 109 2000 s false)))).length:=rfl;refine qE func227 rfl ntmps227 rfl (fun _ hs=>?_);repeat' first|refine Yz ?_|intro _
 rw[QZ,Bl,KN (s:=O9 s),RB (s:=O9 s),KM (s:=O9 s),KL (s:=O9 s),RA (s:=O9 s),ET (s:=O9 s),QY,QX,KN (s:=N8 s),RB (s:=N8 s),KM (s:=N8 s),KL (s:=N8 s),RA (s:=N8 s),ET (s:=N8 s)];have hE:xG s=P5 (jU (N8 s) (R8 s)) (fE (N8 s) (R8 s)):=rfl;have hV:EW s=⟨J8 109 2000 s false,oU (O9 s) (Z5 s),oU (N8 s) (R8 s),kV (O9 s) (Z5 s),kV (N8 s) (R8 s)⟩:=rfl;have hK:zX s=(fD (O9 s) (Z5 s)&&(fD (N8 s) (R8 s)&&decide (xG s=0))):=rfl;rw[kC,jA,hK,hV,hE];by_cases h3:P5 (jU (N8 s) (R8 s)) (fE (N8 s) (R8 s))=0
 rotate_left
 ·rw[dZ h3,Bool.and_false,Bool.and_false];repeat' first|refine Yz ?_|intro _
  refine E9 ?_;exact vX
 have b2:fE (N8 s) (R8 s)=false:=a0l h3;have b1:fE (O9 s) (Z5 s)=false:=by
  rw[QX];cases hb:R8 s
  ·rfl
  ·rw[hb,Ze] at b2;cases b2
 have o1:fD (O9 s) (Z5 s)=(iY (mO (O9 s) (Z5 s))&&decide ((qJ (O9 s) (Z5 s)).length≠1)):=by
  unfold fD;rw[Bd,b1];rfl
 have o2:fD (N8 s) (R8 s)=(iY (mO (N8 s) (R8 s))&&decide ((qJ (N8 s) (R8 s)).length≠1)):=by
  unfold fD;rw[Bd,b2];rfl
 have hX1:=FI (c:=101) (many:=2) (most:=4000) (s:=O9 s) (b:=Z5 s) dc;have hX2:=FI (c:=101) (many:=2) (most:=4000) (s:=N8 s) (b:=R8 s) dc;rw[ET] at hX1 hX2;rw[dT h3,Bool.and_true,oU,oU,kV,kV,o1,o2];generalize qJ (O9 s) (Z5 s)=X1 at *;generalize qJ (N8 s) (R8 s)=X2 at *;generalize mO (O9 s) (Z5 s)=t1 at *;generalize mO (N8 s) (R8 s)=t2 at *;generalize J8 109 2000 s false=n at *;have hne:∀ (x:Bs),decide (([x]:List Bs).length≠1)=false:=fun _=>rfl;have hn0:decide (([]:List Bs).length≠1)=true:=rfl;have hn2:∀ (x y:Bs),decide (([x,y]:List Bs).length≠1)=true:=fun _ _=>rfl;rcases X1 with _|⟨k,_|⟨v,_|⟨w,X1⟩⟩⟩
 rotate_left
 ·rw[hne,Bool.and_false,Bool.false_and];repeat' first|refine Yz ?_|intro _
  refine E9 ?_;exact vX
 rotate_left
 ·simp at hX1;omega
 all_goals
  rcases X2 with _|⟨k2,_|⟨v2,_|⟨w2,X2⟩⟩⟩
  rotate_left
  focus
   rw[hne,Bool.and_false,Bool.and_false];repeat' first|refine Yz ?_|intro _
   refine E9 ?_;exact vX
  rotate_left
  focus
   simp at hX2;omega
  all_goals
   first|rw[hn0,Bool.and_true]|rw[hn2,Bool.and_true]
   try rw[hn0]
   try rw[hn2]
   try rw[Bool.and_true]
   repeat' first|refine Yz ?_|intro _
   cases hr1:iY t1
   focus
    repeat' first|refine Yz ?_|intro _
    refine E9 ?_;exact vX
   cases hr2:iY t2
   focus
    repeat' first|refine Yz ?_|intro _
    refine E9 ?_;exact vX
   repeat' first|refine Yz ?_|intro _
   refine E9 ?_;simp only[Bool.and_self,if_true,Ac];exact a3e⟩
end Go.Proofs.YtocpacdnjbjjmaaGreatDoor

namespace Go.Proofs.YtocpacdnjbjjmaaGreatDoor
open Go Go.RowKit Tw Av
end Go.Proofs.YtocpacdnjbjjmaaGreatDoor
