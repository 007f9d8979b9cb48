/- . -/
import Derived.Test.YtgcmdlboancepaaGreatDoorQ24
set_option maxHeartbeats 64000000
namespace Go.Proofs.Z
open Go Go.RowKit Tw Av Go.Proofs.Tryz
section
variable {l:List Ent}{p:List Hsh}{i m:Int}{root:Hsh}
theorem a5r {i:Nat}(h:Srt l)(hi:i<l.length):mY l l[i].key=i/\nR l l[i].key=true:=by
 have h1:mY l l[i].key=i:=by
  refine XW hi (λj hj=>?_) (yK _);exact List.pairwise_iff_getElem.1 h j i om hi hj
 refine⟨h1,?_⟩;rw[nR,h1,getD_at hi];simp[hi]
theorem La {i:Nat}(h:Srt l)(hi:i<l.length):iV l (mY l l[i].key) (nR l l[i].key)=yM l i:=by
 obtain⟨h1,h2⟩:=a5r h hi;rw[h1,h2];rfl
instance b8g {d:List Ent}{k:Bs}{xs:List AV}{id:Option Value}[hx:Ents xs d]:Ans prog GL 81 [.sl 2 xs id,str k] (d.length<=2000/\Srt d) (.tup [eZ (rV d (mY d k) (nR d k)),d9 (!nR d k)]):=⟨λhpre=>by
 obtain⟨hl,hsr⟩:=hpre;have h:=hx.out;subst h;have hm:(d.map D5).length=d.length:=llm _;refine ze func81 ntmps81 λ_ hs=>?_;repeat' first|refine O ?_|intro
 cases hb:nR d k
 focus
  repeat' first|refine O ?_|intro
  have hle:=a5s d k;generalize mY d k=n at *;have e2:∀ n:Nat,(((n+1:Nat):Int)-1)=n:=λn=>by omega
  by_cases h1:n<d.length
  all_goals
   rcases n with _|n
   focus
    repeat' first|refine Z ?_|intro
   rotate_left
   focus
    repeat' first|refine Z ?_|intro
    rw[e2];repeat' first|refine Z ?_|intro
    rw[e2];repeat' first|refine Z ?_|intro
    rw[La hsr (show n<d.length by omega)]
   all_goals
    try rw[La hsr h1]
    refine F9 ?_;simp only[D8,hm,rV,yM,eZ,Z9,eD,Nat.lt_irrefl,Nat.zero_lt_succ,Nat.add_sub_cancel,h1,if_true,if_false,List.map_cons,List.map_nil,Bool.not_false,Bool.false_eq_true]
    try rw[getD_at (show n<d.length by omega)]
    try rw[getD_at h1]
    exact ImpR.imp
 focus
  repeat' first|refine O ?_|intro
  refine F9 ?_;simp only[D8,rV,eZ,Z9,if_true,pX,eD,List.map_nil,Bool.not_true];exact ImpR.imp⟩
theorem XN {x:Ent}(h:mU root x ⟨i,m,p⟩=true):0<=i/\i<m/\m<=2000:=by
 unfold mU vO at h;dsimp only at h;split at h
 ·simp at h
 omega
theorem a0E {n:Int}{bes:Bs->Bool}{x:Ent}(h:Z8 root n bes (x::l) ⟨i,m,p⟩=true):0<=i/\i<n/\n<=2000:=by
 rcases l with _|⟨y,l⟩
 ·simp only[Z8,Bool.and_eq_true,decide_eq_true_eq] at h;obtain⟨_,h1,h2⟩:=h;have:=XN h2;omega
 simp[Z8] at h
instance b9D {k:Bs}{n i2 m2:Int}{r:List Ent}{q:List Hsh}{xs ys zs ws:List AV}[hx:Ents xs l][hy:Ents ys r][hz:Hshs zs p][hw:Hshs ws q] :
  Ans prog GL 322 [hA root,str k,.agg 9 [int n,.sl 2 xs none,.sl 2 ys none,.agg 3 [int i,int m,.sl 32 zs none],.agg 3 [int i2,int m2,.sl 32 ws none]]] (m<=9223372036854775807/\m2<=9223372036854775807) (d9 (xV root k ⟨n,l,r,⟨i,m,p⟩,⟨i2,m2,q⟩⟩)):=⟨λhpre=>by
 obtain⟨c1,c2⟩:=hpre;have h1:=hx.out;have h2:=hy.out;have h3:=hz.out;have h4:=hw.out;subst h1 h2 h3 h4;refine ze func322 ntmps322 λ_ hs=>?_;repeat' first|refine O ?_|intro
 rename_i g3 g4 g5;refine Y3 (vs:=[.pointer (some ⟨g5,0,none⟩),.pointer (some ⟨g3,0,none⟩)]) ?_;repeat' first|refine O ?_|intro
 refine Y3 (vs:=[.pointer (some ⟨g4,0,none⟩)]) ?_;repeat' first|refine O ?_|intro
 refine gU (args:=[.sl 2 (l.map D5) none,Z9 ⟨i,m,p⟩,E5 384 [.pointer (some ⟨g4,0,none⟩)]]) (cs:=[.pointer (some ⟨g5,0,none⟩),.pointer (some ⟨g3,0,none⟩)])
  [.var g5 55 (eZ ⟨n,l,r,⟨i,m,p⟩,⟨i2,m2,q⟩⟩),.var g4 9 (str k),.var g3 40 (hA root)] [] (by rw[hs];exact Kz (bes:=λa=>blt a k) (λa=>a3x) c1) (λu m1 hh=>?_) lpr
 obtain⟨rfl,rfl⟩:=hh;unfold xV;dsimp only;cases hs1:Z8 root n (λa=>blt a k) l ⟨i,m,p⟩
 ·exact j4
 repeat' first|refine O ?_|intro
 refine Y3 (vs:=[.pointer (some ⟨g4,0,none⟩)]) ?_;refine dD ?_;refine gU (args:=[.sl 2 (r.map D5) none,Z9 ⟨i2,m2,q⟩,E5 385 [.pointer (some ⟨g4,0,none⟩)]]) (cs:=[.pointer (some ⟨g5,0,none⟩),.pointer (some ⟨g3,0,none⟩)])
  [.var g5 55 (eZ ⟨n,l,r,⟨i,m,p⟩,⟨i2,m2,q⟩⟩),.var g4 9 (str k),.var g3 40 (hA root)] [] (by rw[hs];exact Kz (bes:=λa=>blt k a) (λa=>a3w) c2) (λu m1 hh=>?_) lpr
 obtain⟨rfl,rfl⟩:=hh;cases hs2:Z8 root n (λa=>blt k a) r ⟨i2,m2,q⟩
 ·exact j4
 have h0:((([]:List Ent)).map D5).length=0:=rfl;rcases l with _|⟨x,l⟩
 ·rcases r with _|⟨y,r⟩
  ·by_cases hn:n=0
   ·repeat' first|refine Z ?_|intro
    rw[dT hn];repeat' (first|refine W ?_|refine nN ?_|refine rH ?_|refine mM ?_|refine oU ?_|refine D6 (λ_=>?_)|intro _)
    apply zf [];exact zi;intro _ _;refine dD ?_;refine Be [.agg 1 [.sl 2 [] none]] (hp:=Nat.zero_le _) ?_;exact j3 (p9 rfl rfl);repeat' (first|refine W ?_|refine nN ?_|refine rH ?_|refine mM ?_|refine oU ?_|refine D6 (λ_=>?_)|intro _)
    refine j6 ?_;simp[D8,hn,AO]
   repeat' first|refine Z ?_|intro
   rw[dZ hn];repeat' (first|refine W ?_|refine nN ?_|refine rH ?_|refine mM ?_|refine oU ?_|refine D6 (λ_=>?_)|intro _)
   refine j6 ?_;simp[D8,hn,AO]
  have hmr:((y::r).map D5).length=r.length+1:=sm
  exact j4
 have hml:((x::l).map D5).length=l.length+1:=sm
 obtain⟨c3,c4,c5⟩:=a0E hs1;rcases r with _|⟨y,r⟩
 ·exact j4
 have hmr:((y::r).map D5).length=r.length+1:=sm
 exact j4⟩
end

instance b7w {root:Hsh}{k:Bs}{n i m i2 m2:Int}{l r:List Ent}{p q:List Hsh}{xs ys zs ws:List AV}[hx:Ents xs l][hy:Ents ys r][hz:Hshs zs p][hw:Hshs ws q] :
  Ans prog GL 473 [hA root,str k,.agg 9 [int n,.sl 2 xs none,.sl 2 ys none,.agg 3 [int i,int m,.sl 32 zs none],.agg 3 [int i2,int m2,.sl 32 ws none]]] (m<=9223372036854775807/\m2<=9223372036854775807) (d9 (xV root k ⟨n,l,r,⟨i,m,p⟩,⟨i2,m2,q⟩⟩)):=⟨λhpre=>by
 obtain⟨c1,c2⟩:=hpre;have h1:=hx.out;have h2:=hy.out;have h3:=hz.out;have h4:=hw.out;subst h1 h2 h3 h4;refine ze func473 ntmps473 λ_ hs=>?_;unfold xV;dsimp only;have hcons1:∀ x:Ent,([x].map D5).length=1:=λx=>rfl;have hcons2:∀ (x y:Ent) (l:List Ent),((x::y::l).map D5).length=l.length+2:=λx y l=>by simp
 have h0:((([]:List Ent)).map D5).length=0:=rfl;rcases l with _|⟨⟨xk,xv⟩,_|⟨x2,l⟩⟩
 ·rcases r with _|⟨⟨yk,yv⟩,_|⟨y2,r⟩⟩
  ·by_cases hn:n=0
   ·repeat' first|refine Z ?_|intro
    rw[dT hn];repeat' (first|refine W ?_|refine nN ?_|refine rH ?_|refine mM ?_|refine oU ?_|refine D6 (λ_=>?_)|intro _)
    apply zf [];exact zi;intro _ _;refine dD ?_;refine Be [.sl 2 [] none] (hp:=Nat.zero_le _) ?_;exact j3 (p9 rfl rfl);repeat' (first|refine W ?_|refine nN ?_|refine rH ?_|refine mM ?_|refine oU ?_|refine D6 (λ_=>?_)|intro _)
    refine j6 ?_;simp[D8,hn,AO,Z8]
   repeat' first|refine Z ?_|intro
   rw[dZ hn];repeat' (first|refine W ?_|refine nN ?_|refine rH ?_|refine mM ?_|refine oU ?_|refine D6 (λ_=>?_)|intro _)
   refine j6 ?_;simp[D8,hn,AO,Z8]
  ·have hl1:=hcons1 ⟨yk,yv⟩;repeat' first|refine Z ?_|intro
   cases hH2:mU root ⟨yk,yv⟩ ⟨i2,m2,q⟩
   focus
    repeat' first|refine Z ?_|intro
    refine j6 ?_;simp[D8,Z8,hH2]
   by_cases hq2:m2=n
   rotate_left
   focus
    repeat' first|refine Z ?_|intro
    refine j6 ?_;simp[D8,Z8,hq2]
   repeat' first|refine Z ?_|intro
   have hge:(blt yk k || decide (yk=k))=!blt k yk:=by rw[<- Ah (a:=yk) (b:=k),Bool.not_not]
   rw[hge];cases hk2:blt k yk
   focus
    repeat' first|refine Z ?_|intro
    refine j6 ?_;simp[D8,Z8,hk2]
   repeat' first|refine Z ?_|intro
   refine j6 ?_;rw[hq2] at hH2;simp[D8,Z8,AO,hH2,hq2,hk2]
  have hl1:=hcons2 ⟨yk,yv⟩ y2 r;repeat' first|refine Z ?_|intro
  refine j6 ?_;simp[D8,Z8]
 ·have hl3:=hcons1 ⟨xk,xv⟩;rcases r with _|⟨⟨yk,yv⟩,_|⟨y2,r⟩⟩
  ·repeat' first|refine Z ?_|intro
   cases hH1:mU root ⟨xk,xv⟩ ⟨i,m,p⟩
   focus
    repeat' first|refine Z ?_|intro
    refine j6 ?_;simp[D8,Z8,hH1]
   have hb1:=XN hH1;by_cases hq1:m=n
   rotate_left
   focus
    repeat' first|refine Z ?_|intro
    refine j6 ?_;simp[D8,Z8,hq1]
   repeat' first|refine Z ?_|intro
   cases hk1:blt xk k
   focus
    repeat' first|refine Z ?_|intro
    refine j6 ?_;simp[D8,Z8,hk1]
   repeat' first|refine Z ?_|intro
   refine j6 ?_;rw[hq1] at hH1;simp[D8,Z8,AO,hH1,hq1,hk1]
  ·have hl1:=hcons1 ⟨yk,yv⟩;repeat' first|refine Z ?_|intro
   cases hH1:mU root ⟨xk,xv⟩ ⟨i,m,p⟩
   focus
    repeat' first|refine Z ?_|intro
    refine j6 ?_;simp[D8,Z8,hH1]
   have hb1:=XN hH1;by_cases hq1:m=n
   rotate_left
   focus
    repeat' first|refine Z ?_|intro
    refine j6 ?_;simp[D8,Z8,hq1]
   repeat' first|refine Z ?_|intro
   cases hk1:blt xk k
   focus
    repeat' first|refine Z ?_|intro
    refine j6 ?_;simp[D8,Z8,hk1]
   repeat' first|refine Z ?_|intro
   cases hH2:mU root ⟨yk,yv⟩ ⟨i2,m2,q⟩
   focus
    repeat' first|refine Z ?_|intro
    refine j6 ?_;simp[D8,Z8,hH2]
   by_cases hq2:m2=n
   rotate_left
   focus
    repeat' first|refine Z ?_|intro
    refine j6 ?_;simp[D8,Z8,hq2]
   repeat' first|refine Z ?_|intro
   have hge:(blt yk k || decide (yk=k))=!blt k yk:=by rw[<- Ah (a:=yk) (b:=k),Bool.not_not]
   rw[hge];cases hk2:blt k yk
   focus
    repeat' first|refine Z ?_|intro
    refine j6 ?_;simp[D8,Z8,hk2]
   repeat' first|refine Z ?_|intro
   refine j6 ?_;rw[hq1] at hH1;rw[hq2] at hH2;simp[D8,Z8,AO,hH1,hq1,hk1,hH2,hq2,hk2]
  have hl1:=hcons2 ⟨yk,yv⟩ y2 r;repeat' first|refine Z ?_|intro
  refine j6 ?_;simp[D8,Z8]
 have hl1:=hcons2 ⟨xk,xv⟩ x2 l;repeat' first|refine Z ?_|intro
 refine j6 ?_;simp[D8,Z8]⟩

instance c0z {n n2:Int}{l r l2 r2:List Ent}{i m i2 m2 i3 m3 i4 m4:Int}{p q p2 q2:List Hsh}{xs ys zs ws nC ys2 zs2 ws2:List AV}[hx:Ents xs l][hy:Ents ys r][hz:Hshs zs p][hw:Hshs ws q][hx2:Ents nC l2][hy2:Ents ys2 r2][hz2:Hshs zs2 p2][hw2:Hshs ws2 q2] :
  Ans prog GL 91 [.agg 9 [int n,.sl 2 xs none,.sl 2 ys none,.agg 3 [int i,int m,.sl 32 zs none],.agg 3 [int i2,int m2,.sl 32 ws none]],.agg 9 [int n2,.sl 2 nC none,.sl 2 ys2 none,.agg 3 [int i3,int m3,.sl 32 zs2 none],.agg 3 [int i4,int m4,.sl 32 ws2 none]]]
   (p2.length<=1073741823/\q2.length<=1073741823) (d9 (decide ((⟨n,l,r,⟨i,m,p⟩,⟨i2,m2,q⟩⟩:Gp)=⟨n2,l2,r2,⟨i3,m3,p2⟩,⟨i4,m4,q2⟩⟩))):=⟨λhpre=>by
 obtain⟨c1,c2⟩:=hpre;have h1:=hx.out;have h2:=hy.out;have h3:=hz.out;have h4:=hw.out;have h5:=hx2.out;have h6:=hy2.out;have h7:=hz2.out;have h8:=hw2.out;subst h1 h2 h3 h4 h5 h6 h7 h8;refine ze func91 ntmps91 λ_ hs=>?_;repeat' first|refine O ?_|intro
 have e:decide ((⟨n,l,r,⟨i,m,p⟩,⟨i2,m2,q⟩⟩:Gp)=⟨n2,l2,r2,⟨i3,m3,p2⟩,⟨i4,m4,q2⟩⟩)=(decide (l=l2)&&(decide (r=r2)&&((decide (p=p2)&&(decide (i=i3)&&decide (m=m3)))&&((decide (q=q2)&&(decide (i2=i4)&&decide (m2=m4)))&&decide (n=n2))))):=by
  rw[Bool.eq_iff_iff];simp only[decide_eq_true_eq,Bool.and_eq_true,Gp.mk.injEq,Prf.mk.injEq]
  constructor
  ·rintro⟨a1,a2,a3,⟨a4,a5,a6⟩,a7,a8,a9⟩;exact⟨a2,a3,⟨a6,a4,a5⟩,⟨a9,a7,a8⟩,a1⟩
  rintro⟨a2,a3,⟨a6,a4,a5⟩,⟨a9,a7,a8⟩,a1⟩;exact⟨a1,a2,a3,⟨a4,a5,a6⟩,a7,a8,a9⟩
 rw[e];generalize decide (l=l2)=b1;generalize decide (r=r2)=b2;generalize (decide (p=p2)&&(decide (i=i3)&&decide (m=m3)))=b3;generalize (decide (q=q2)&&(decide (i2=i4)&&decide (m2=m4)))=b4;cases b1
 focus
  exact J7
 cases b2
 focus
  exact J7
 cases b3
 focus
  exact J7
 cases b4
 focus
  exact J7
 repeat' first|refine O ?_|intro
 refine j6 ?_;simp[D8]⟩
end Go.Proofs.Z

namespace Av
open Go Go.RowKit Tw
section
variable {P:Program} {N:Nat} {ops:Array Oper} {Q:Exit->Act->World->Prop} {rest:List Oper} {s:Base} {e:Env} {m:List Piece} {d:Nat} {ty:TypeId} {pos:String} {af:Array Edge}
end
end Av
namespace Go.Proofs.Z
open Go Go.RowKit Tw Av
end Go.Proofs.Z

namespace Go.Proofs.Z
open Go Go.RowKit Tw Av


end Go.Proofs.Z

namespace Av
open Go Go.RowKit Tw
section
variable {P:Program} {N:Nat} {s:Base} {e:Env} {m:List Piece}
end
end Av
namespace Go.Proofs.Z
open Go Go.RowKit Tw Av
instance {k:Nat}:ImpT (.lit (.slice none 0 0)) (.sl k [] (some (.slice none 0 0))):=⟨ImpC.nilS⟩
end Go.Proofs.Z

namespace Go.Proofs.Z
open Go Go.RowKit Tw Av
end Go.Proofs.Z

namespace Go.Proofs.Z
open Go Go.RowKit Tw Av Go.Proofs.Tryz
def aR (p:Prf):Bs:=D7 105 p.a++D7 109 p.m++O8 112 (p.p.map λh=>h.l)
def iB (l:List Ent):List Bs:=l.flatMap λx=>[x.key,x.val]
def bA (l:List Ent)(p:Prf):Bs:=O8 101 (iB l)++r9 80 (aR p)
def mW (g:Gp):Bs:=D7 109 g.n++bA g.l g.a++bA g.r g.b
instance b9u {i m:Int}{p:List Hsh}{xs:List AV}{id:Option Value}[hx:Hshs xs p]:Ans prog GL 53 [.agg 3 [int i,int m,.sl 32 xs id]] (p.length<=1000000/\i<=9223372036854775807/\m<=9223372036854775807) (str (aR ⟨i,m,p⟩)):=⟨λhp=>by
 obtain⟨hn,hi,hmm⟩:=hp;have h:=hx.out;subst h;have hm:(p.map hA).length=p.length:=llm _;refine ze func53 ntmps53 λ_ hs=>?_;repeat' first|refine Yz ?_|intro
 rename_i g1;refine Y4 3 (Imp.nil (k:=1)) ?_;refine P6 (λok w h=>h.full 9 1 none 0) ?_;refine y9 (α:=Nat × Value) (λq=>[(1,ptr g1),(3,.sl 1 (((p.take q.1).map λh=>h.l).map str) (some q.2)),(7,.sl 32 (p.map hA) id),(8,int p.length),(9,int q.1)]) (λq=>[.tail 9 1 q.2,.var g1 52 (.agg 3 [int i,int m,.sl 32 (p.map hA) id])]) (λq=>q.1<=p.length) (λq=>p.length-q.1) (0,.slice none 0 0) ⟨rfl,rfl,rfl,by rw[<- hm];rfl,rfl,trivial⟩ slr (Nat.zero_le _) ?_;rintro⟨j,v⟩ hj;dsimp only at hj ⊢;repeat' first|refine Yz ?_|intro
 refine w9 (λhlt=>?_) (λhlt=>?_)
 ·have hil:j<p.length:=om
  have hml:((p.take j).map λh=>h.l).length<=1000000:=by simp;omega
  repeat' first|refine Yz ?_|intro
  refine H7 (λv'=>?_);repeat' first|refine Yz ?_|intro
  refine o9 (j+1,v') ⟨rfl,?_,rfl,rfl,rfl,trivial⟩ (List.Sublist.cons _ slr) hil (by dsimp only;omega);rw[List.take_succ_eq_append_getElem hil,List.map_append,List.map_append];rfl
 obtain rfl:j=p.length:=by omega
 rw[List.take_length];have hml:(p.map λh=>h.l).length<=8000000:=by simp;omega
 exact Z5⟩
instance b7s {i m:Int}{p:List Hsh}{xs:List AV}{id:Option Value}[hx:Hshs xs p]:Ans prog GL 167 [.agg 3 [int i,int m,.sl 32 xs id]] (p.length<=1000000/\i<=9223372036854775807/\m<=9223372036854775807) (str (aR ⟨i,m,p⟩)):=⟨λhp=>by
 obtain⟨hn,hi,hmm⟩:=hp;have h:=hx.out;subst h;have hm:(p.map hA).length=p.length:=llm _;refine ze func167 ntmps167 λ_ hs=>?_;repeat' first|refine Yz ?_|intro
 rename_i g1;refine Y4 3 (Imp.nil (k:=1)) ?_;refine P6 (λok w h=>h.full 9 1 none 0) ?_;refine y9 (α:=Nat × Value) (λq=>[(1,ptr g1),(3,.sl 1 (((p.take q.1).map λh=>h.l).map str) (some q.2)),(4,int q.1)]) (λq=>[.tail 9 1 q.2,.var g1 52 (.agg 3 [int i,int m,.sl 32 (p.map hA) id])]) (λq=>q.1<=p.length) (λq=>p.length-q.1) (0,.slice none 0 0) zc slr (Nat.zero_le _) ?_;rintro⟨j,v⟩ hj;dsimp only at hj ⊢;repeat' first|refine Yz ?_|intro
 refine w9 (λhlt=>?_) (λhlt=>?_)
 ·have hil:j<p.length:=om
  have hml:((p.take j).map λh=>h.l).length<=1000000:=by simp;omega
  repeat' first|refine Yz ?_|intro
  refine H7 (λv'=>?_);repeat' first|refine Yz ?_|intro
  refine o9 (j+1,v') ⟨rfl,?_,rfl,trivial⟩ slr hil (by dsimp only;omega);rw[List.take_succ_eq_append_getElem hil,List.map_append,List.map_append];rfl
 obtain rfl:j=p.length:=by omega
 rw[List.take_length];have hml:(p.map λh=>h.l).length<=8000000:=by simp;omega
 exact Z5⟩

section
variable {l:List Ent}{xs ys:List AV}{p:List Hsh}{i m:Int}
theorem EO (l:List Ent):(iB l).length=l.length*2:=by
 induction l with
 | nil=>rfl
 | cons x l ih=>simp[iB] at ih ⊢;omega
theorem Ed {j:Nat}(h:j<l.length):iB (l.take (j+1))=iB (l.take j)++[l[j].key,l[j].val]:=by
 unfold iB;rw[List.take_succ_eq_append_getElem h,List.flatMap_append];simp
instance {l:List Ent}{p:Prf}:LenLe (bA l p) 33554438:=⟨by
 have h1:=wG 101 ((iB l).flatMap (r9 101));have h2:=wG 80 (aR p);have e:bA l p=r9 101 ((iB l).flatMap (r9 101))++r9 80 (aR p):=rfl;rw[e,lla];omega⟩
instance b9n {id id2:Option Value}[hx:Ents xs l][hy:Hshs ys p]:Ans prog GL 114 [.sl 2 xs id,.agg 3 [int i,int m,.sl 32 ys id2]] (l.length<=1000000/\p.length<=1000000/\i<=9223372036854775807/\m<=9223372036854775807) (str (bA l ⟨i,m,p⟩)):=⟨λhp=>by
 obtain⟨hll,hn,hi,hmm⟩:=hp;have h:=hx.out;have h2:=hy.out;subst h h2;have hm:(l.map D5).length=l.length:=llm _;refine ze func114 ntmps114 λ_ hs=>?_;repeat' first|refine Yz ?_|intro
 rename_i g1;refine Y4 5 (Imp.nil (k:=1)) ?_;refine P6 (λok w h=>h.full 9 1 none 0) ?_;refine y9 (α:=Nat × Value) (λq=>[(3,ptr g1),(5,.sl 1 ((iB (l.take q.1)).map str) (some q.2)),(8,.sl 2 (l.map D5) id),(9,int l.length),(10,int q.1)]) (λq=>[.tail 9 1 q.2,.var g1 52 (.agg 3 [int i,int m,.sl 32 (p.map hA) id2])]) (λq=>q.1<=l.length) (λq=>l.length-q.1) (0,.slice none 0 0) ⟨rfl,rfl,rfl,by rw[<- hm];rfl,rfl,trivial⟩ slr (Nat.zero_le _) ?_;rintro⟨j,v⟩ hj;dsimp only at hj ⊢;repeat' first|refine Yz ?_|intro
 refine w9 (λhlt=>?_) (λhlt=>?_)
 ·have hil:j<l.length:=om
  have hml:(iB (l.take j)).length<=2000000:=by rw[EO];simp;omega
  repeat' first|refine Yz ?_|intro
  refine H7 (λv'=>?_);repeat' first|refine Yz ?_|intro
  refine o9 (j+1,v') ⟨rfl,?_,rfl,rfl,rfl,trivial⟩ (List.Sublist.cons _ slr) hil (by dsimp only;omega);rw[Ed hil,List.map_append];rfl
 obtain rfl:j=l.length:=by omega
 rw[List.take_length];have hml:(iB l).length<=8000000:=by rw[EO];omega
 exact Z5⟩
instance b7q {id id2:Option Value}[hx:Ents xs l][hy:Hshs ys p]:Ans prog GL 266 [.sl 2 xs id,.agg 3 [int i,int m,.sl 32 ys id2]] (l.length<=1000000/\p.length<=1000000/\i<=9223372036854775807/\m<=9223372036854775807) (str (bA l ⟨i,m,p⟩)):=⟨λhp=>by
 obtain⟨hll,hn,hi,hmm⟩:=hp;have h:=hx.out;have h2:=hy.out;subst h h2;have hm:(l.map D5).length=l.length:=llm _;refine ze func266 ntmps266 λ_ hs=>?_;repeat' first|refine Yz ?_|intro
 rename_i g1;refine Y4 5 (Imp.nil (k:=1)) ?_;refine P6 (λok w h=>h.full 9 1 none 0) ?_;refine y9 (α:=Nat × Value) (λq=>[(0,.sl 2 (l.map D5) id),(3,ptr g1),(5,.sl 1 ((iB (l.take q.1)).map str) (some q.2)),(6,int q.1)]) (λq=>[.tail 9 1 q.2,.var g1 52 (.agg 3 [int i,int m,.sl 32 (p.map hA) id2])]) (λq=>q.1<=l.length) (λq=>l.length-q.1) (0,.slice none 0 0) zc slr (Nat.zero_le _) ?_;rintro⟨j,v⟩ hj;dsimp only at hj ⊢;repeat' first|refine Yz ?_|intro
 refine w9 (λhlt=>?_) (λhlt=>?_)
 ·have hil:j<l.length:=om
  have hml:(iB (l.take j)).length<=2000000:=by rw[EO];simp;omega
  repeat' first|refine Yz ?_|intro
  refine H7 (λv'=>?_);repeat' first|refine Yz ?_|intro
  refine H7 (λv''=>?_);repeat' first|refine Yz ?_|intro
  refine o9 (j+1,v'') ⟨rfl,rfl,?_,rfl,trivial⟩ slr hil (by dsimp only;omega);rw[Ed hil,List.map_append];simp;rfl
 obtain rfl:j=l.length:=by omega
 rw[List.take_length];have hml:(iB l).length<=8000000:=by rw[EO];omega
 exact Z5⟩
structure GapW (g:Gp):Prop where
 l:g.l.length<=1000000/\g.a.p.length<=1000000/\g.a.a<=9223372036854775807/\g.a.m<=9223372036854775807
 r:g.r.length<=1000000/\g.b.p.length<=1000000/\g.b.a<=9223372036854775807/\g.b.m<=9223372036854775807
 n:g.n<=9223372036854775807
instance b7I {n i2 m2:Int}{r:List Ent}{q:List Hsh}{zs ws:List AV}{d1 d2 d3 d4:Option Value}[hx:Ents xs l][hy:Ents ys r][hz:Hshs zs p][hw:Hshs ws q]:Ans prog GL 168 [.agg 9 [int n,.sl 2 xs d1,.sl 2 ys d2,.agg 3 [int i,int m,.sl 32 zs d3],.agg 3 [int i2,int m2,.sl 32 ws d4]]] (GapW ⟨n,l,r,⟨i,m,p⟩,⟨i2,m2,q⟩⟩) (str (mW ⟨n,l,r,⟨i,m,p⟩,⟨i2,m2,q⟩⟩)):=⟨λhp=>by
 obtain⟨hl,hr,hn⟩:=hp;dsimp only at hl hr hn;refine ze func168 ntmps168 λ_ hs=>?_;exact Z5⟩
end

section
variable {s:Bs}
def mD (s:Bs):Bs:=o8 105 8 s false
def qN (s:Bs):Bool:=N9 105 2000 s false
def iP (s:Bs):Bs:=o8 109 8 (mD s) (qN s)
def kX (s:Bs):Bool:=N9 109 2000 (mD s) (qN s)
def tQ (s:Bs):List Bs:=jJ 112 16 32 (iP s) (kX s)
def BQ (s:Bs):Int:=U7 (o8 112 16777215 (iP s) (kX s)) (eF 112 16 32 (iP s) (kX s))
def JJ (s:Bs):Prf:=⟨L9 105 2000 s false,L9 109 2000 (mD s) (qN s),(tQ s).map W9⟩
def mO (t:Bs):Bool:=decide (t.length=32)
def mE (s:Bs):Bool:=(tQ s).all mO&&decide (BQ s=0)
def jH (s:Bs):Prf:=if mE s=true then JJ s else eD
def fG (s:Bs):Int:=if mE s=true then 0 else 10
theorem UZ :o8 105 8 s false=mD s:=rfl
theorem Gm :N9 105 2000 s false=qN s:=rfl
theorem UY :o8 109 8 (mD s) (qN s)=iP s:=rfl
theorem Gl :N9 109 2000 (mD s) (qN s)=kX s:=rfl
theorem OA :jJ 112 16 32 (iP s) (kX s)=tQ s:=rfl
theorem Fz (s:Bs):(mD s).length<=s.length/\(iP s).length<=s.length:=by
 have h1:=(aH 105 8 s false).1;have h2:=(aH 109 8 (mD s) (qN s)).1;rw[UZ] at h1;rw[UY] at h2;exact⟨h1,om⟩
theorem Vu {l:List Bs}{i:Nat}(hi:i<l.length)(h:(l.take i).all mO=true)(h2:mO l[i]=true):(l.take (i+1)).all mO=true:=by
 rw[List.take_succ_eq_append_getElem hi,List.all_append,h];simp[h2]
theorem Vv {l:List Bs}{i:Nat}(hi:i<l.length)(h2:mO l[i]=false):l.all mO=false:=by
 rw[List.all_eq_false];exact⟨l[i],List.getElem_mem hi,by simp[h2]⟩
theorem JS {c many most:Int}{b:Bool}(h0:0<=many):((jJ c many most s b).length:Int)<=many:=by
 unfold jJ BZ;split
 ·simpa using h0
 rename_i h;unfold yL at h;by_cases hm:many<((DW c most (G9 c 16777215 s b)).1.length:Int)
 ·rw[dT hm] at h;simp at h
 omega
theorem Nl {a m:Int}:ImpC (.agg 3 [int a,int m,.lit (.slice none 0 0)]) (.agg 3 [int a,int m,.sl 32 [] (some (.slice none 0 0))]):=λok w cs h=>by
 rw[RC] at h ⊢;refine⟨h.1,?_⟩;have h:=h.2;rw[RCs] at h ⊢;obtain⟨a1,b1,e1,f1,h⟩:=h;refine⟨a1,b1,e1,f1,?_⟩;rw[RCs] at h ⊢;obtain⟨a1,b1,e1,f1,h⟩:=h;refine⟨a1,b1,e1,f1,?_⟩;rw[RCs] at h ⊢;obtain⟨a1,b1,e1,f1,h⟩:=h;exact⟨a1,b1,e1,ImpC.nilT _ _ _ f1,h⟩
theorem XM:Imp (.tup [.agg 3 [.lit (.int .i64 0),.lit (.int .i64 0),.lit (.slice none 0 0)],int 10]) (.tup [Z9 eD,int 10]):=(inferInstance:ImpR _ (.tup [.agg 3 [int 0,int 0,.sl 32 [] none],int 10])).imp
theorem a4G {a m:Int}{xs:List AV}{v:Value}{e:Int}:Imp (.tup [.agg 3 [int a,int m,.sl 32 xs (some v)],int e]) (.tup [.agg 3 [int a,int m,.sl 32 xs none],int e]):=ImpR.imp
instance a5Z :Ans prog GL 328 [str s] (s.length<=1000000000) (.tup [Z9 (jH s),int (fG s)]):=⟨λhl=>by
 obtain⟨l1,l2⟩:=Fz s;have e1:(mD s).length=(o8 105 8 s false).length:=rfl;have e2:(iP s).length=(o8 109 8 (o8 105 8 s false) (N9 105 2000 s false)).length:=rfl;refine ze func328 ntmps328 λ_ hs=>?_;repeat' first|refine Yz ?_|intro
 refine H6 (args:=[str s]) [] _ (by rw[hs];exact wH) (λu m1 hh=>?_) lpr;obtain⟨gr,rfl,rfl⟩:=hh;repeat' first|refine Yz ?_|intro
 rw[UZ,Gm,UY,Gl,OA];have hE:BQ s=U7 (o8 112 16777215 (iP s) (kX s)) (eF 112 16 32 (iP s) (kX s)):=rfl;have hV:JJ s=⟨L9 105 2000 s false,L9 109 2000 (mD s) (qN s),(tQ s).map W9⟩:=rfl;have hK:mE s=((tQ s).all mO&&decide (BQ s=0)):=rfl;have hn:=JS (c:=112) (many:=16) (most:=32) (s:=iP s) (b:=kX s) dc;rw[OA] at hn;rw[jH,fG,hK,hV,hE];generalize tQ s=L at *;generalize o8 112 16777215 (iP s) (kX s)=S5 at *;generalize eF 112 16 32 (iP s) (kX s)=B5 at *;generalize L9 105 2000 s false=a at *;generalize L9 109 2000 (mD s) (qN s)=m at *;have hml:(L.map str).length=L.length:=llm _;rename_i g2 g5;refine dY (g:=g5) (v':=.agg 3 [int a,int m,.sl 32 [] (some (.slice none 0 0))]) Nl ?_;refine P6 (λok w h=>h.full 40 32 none 0) ?_;refine SN (α:={q:List Hsh × Value // L.all mO=true->q.1=L.map W9}) (λ_=>[(2,ptr g2),(4,ptr gr),(5,ptr g5),(6,int (if L.all mO=true then 0 else 10))])
  (λq=>[.var g5 52 (.agg 3 [int a,int m,.sl 32 (q.1.1.map hA) (some q.1.2)]),.var gr 311 (F7 S5 B5),.var g2 52 (.agg 3 [int 0,int 0,J2])]) ?_ (λq=>?_)
 ·refine y9 (α:=Nat × Value) (λq=>[(2,ptr g2),(4,ptr gr),(5,ptr g5),(6,int 0),(19,.sl 1 (L.map str) none),(20,int L.length),(21,int q.1)])
   (λq=>[.tail 40 32 q.2,.var g5 52 (.agg 3 [int a,int m,.sl 32 (((L.take q.1).map W9).map hA) (some q.2)]),.var gr 311 (F7 S5 B5),.var g2 52 (.agg 3 [int 0,int 0,J2])])
   (λq=>q.1<=L.length/\(L.take q.1).all mO=true) (λq=>L.length-q.1) (0,.slice none 0 0) ⟨rfl,rfl,rfl,rfl,rfl,by rw[<- hml];rfl,rfl,trivial⟩ slr ⟨Nat.zero_le _,rfl⟩ ?_
  rintro⟨i,v⟩ ⟨h1,h2⟩;dsimp only at h1 h2 ⊢;repeat' first|refine Yz ?_|intro
  refine w9 (λhlt=>?_) (λhlt=>?_)
  ·have hil:i<L.length:=om
   have hml2:((L.take i).map W9).length<=16:=by simp;omega
   repeat' first|refine Yz ?_|intro
   by_cases h32:L[i].length=32
   ·rw[if_pos h32];repeat' first|refine Yz ?_|intro
    refine H7 (λv'=>?_);repeat' first|refine Yz ?_|intro
    refine o9 (i+1,v') zc ?_ ⟨hil,Vu hil h2 (dT h32)⟩ (by dsimp only;omega);dsimp only;rw[List.take_succ_eq_append_getElem hil,List.map_append,List.map_append];exact List.Sublist.cons _ slr
   rw[if_neg h32];repeat' first|refine Yz ?_|intro
   have hno:=Vv hil (show mO L[i]=false from dZ h32);refine aZ ⟨((L.take i).map W9,v),λh=>by rw[hno] at h;cases h⟩ ⟨rfl,rfl,rfl,?_,trivial⟩ ?_
   ·rw[hno];rfl
   exact u7
  obtain rfl:i=L.length:=by omega
  rw[List.take_length] at h2 ⊢;repeat' first|refine Yz ?_|intro
  refine aZ ⟨(L.map W9,v),λ_=>rfl⟩ ⟨rfl,rfl,rfl,?_,trivial⟩ ?_
  ·rw[h2];rfl
  exact u7
 obtain⟨⟨ps,v⟩,hq⟩:=q;dsimp only at hq ⊢;cases ha:L.all mO
 ·repeat' first|refine Yz ?_|intro
  refine F9 ?_;exact XM
 rw[hq ha];by_cases hE0:U7 S5 B5=0
 ·rw[dT hE0];repeat' first|refine Yz ?_|intro
  refine F9 ?_;exact a4G
 rw[dZ hE0];repeat' first|refine Yz ?_|intro
 refine F9 ?_;exact XM⟩
end

theorem Nj:Imp (.tup [.agg 3 [.lit (.int .i64 0),.lit (.int .i64 0),.lit (.slice none 0 0)],d9 false]) (.tup [Z9 eD,d9 false]):=(inferInstance:ImpR _ (.tup [.agg 3 [int 0,int 0,.sl 32 [] none],d9 false])).imp
theorem a4F {a m:Int}{xs:List AV}{v:Value}{e:Bool}:Imp (.tup [.agg 3 [int a,int m,.sl 32 xs (some v)],d9 e]) (.tup [.agg 3 [int a,int m,.sl 32 xs none],d9 e]):=ImpR.imp
instance b6K {s:Bs}:Ans prog GL 394 [str s] (s.length<=1000000000) (.tup [Z9 (jH s),d9 (mE s)]):=⟨λhl=>by
 obtain⟨l1,l2⟩:=Fz s;have e1:(mD s).length=(o8 105 8 s false).length:=rfl;have e2:(iP s).length=(o8 109 8 (o8 105 8 s false) (N9 105 2000 s false)).length:=rfl;refine ze func394 ntmps394 λ_ hs=>?_;repeat' first|refine Yz ?_|intro
 rw[UZ,Gm,UY,Gl,OA];have hE:BQ s=U7 (o8 112 16777215 (iP s) (kX s)) (eF 112 16 32 (iP s) (kX s)):=rfl;have hV:JJ s=⟨L9 105 2000 s false,L9 109 2000 (mD s) (qN s),(tQ s).map W9⟩:=rfl;have hK:mE s=((tQ s).all mO&&decide (BQ s=0)):=rfl;have hn:=JS (c:=112) (many:=16) (most:=32) (s:=iP s) (b:=kX s) dc;rw[OA] at hn;rw[jH,hK,hV,hE];generalize tQ s=L at *;generalize o8 112 16777215 (iP s) (kX s)=S5 at *;generalize eF 112 16 32 (iP s) (kX s)=B5 at *;generalize L9 105 2000 s false=a at *;generalize L9 109 2000 (mD s) (qN s)=m at *;have hml:(L.map str).length=L.length:=llm _;by_cases hE0:U7 S5 B5=0
 rotate_left
 ·rw[dZ hE0,Bool.and_false];repeat' first|refine Yz ?_|intro
  refine F9 ?_;exact Nj
 rw[dT hE0,Bool.and_true];repeat' first|refine Yz ?_|intro
 rename_i g2 gr g5;refine dY (g:=g5) (v':=.agg 3 [int a,int m,.sl 32 [] (some (.slice none 0 0))]) Nl ?_;refine P6 (λok w h=>h.full 40 32 none 0) ?_;refine y9 (α:=Nat × Value) (λq=>[(2,ptr g2),(5,ptr g5),(6,.sl 1 (L.map str) none),(7,int q.1)])
   (λq=>[.tail 40 32 q.2,.var g5 52 (.agg 3 [int a,int m,.sl 32 (((L.take q.1).map W9).map hA) (some q.2)]),.var g2 52 (.agg 3 [int 0,int 0,J2])])
   (λq=>q.1<=L.length/\(L.take q.1).all mO=true) (λq=>L.length-q.1) (0,.slice none 0 0) zc ?_ ⟨Nat.zero_le _,rfl⟩ ?_
 focus
  exact u7
 rintro⟨i,v⟩ ⟨h1,h2⟩;dsimp only at h1 h2 ⊢;repeat' first|refine Yz ?_|intro
 refine w9 (λhlt=>?_) (λhlt=>?_);rotate_left
 ·obtain rfl:i=L.length:=by omega
  rw[List.take_length] at h2 ⊢;rw[h2];repeat' first|refine Yz ?_|intro
  refine F9 ?_;exact a4F
 have hil:i<L.length:=om
 have hml2:((L.take i).map W9).length<=16:=by simp;omega
 repeat' first|refine Yz ?_|intro
 by_cases h32:L[i].length=32
 rotate_left
 ·have hno:=Vv hil (show mO L[i]=false from dZ h32);rw[hno];repeat' first|refine Yz ?_|intro
  refine F9 ?_;exact Nj
 repeat' first|refine Yz ?_|intro
 rename_i g8;refine y9 (α:=Nat) (λk=>[(2,ptr g2),(5,ptr g5),(6,.sl 1 (L.map str) none),(7,int i),(8,ptr g8),(9,int k)])
   (λk=>[.var g8 40 (.agg 32 ((iH L[i] k).map A7)),.tail 40 32 v,.var g5 52 (.agg 3 [int a,int m,.sl 32 (((L.take i).map W9).map hA) (some v)]),.var g2 52 (.agg 3 [int 0,int 0,J2])])
   (λk=>k<=32) (λk=>32-k) 0 zc slr (Nat.zero_le _) ?_
 intro k hk;repeat' first|refine Yz ?_|intro
 refine w9 (λhlt2=>?_) (λhlt2=>?_)
 ·have hkl:k<32:=om
  have hkx:k<L[i].length:=om
  repeat' first|refine Yz ?_|intro
  refine vY k ?_ (List.getElem?_eq_getElem hkx);repeat' first|refine Yz ?_|intro
  refine O1 k ?_;refine kD (j:=k) (ps:=(iH L[i] k).map A7) (by simp only[List.length_map];rw[PY h32 hk];exact hkl) ?_;repeat' first|refine Yz ?_|intro
  rw[show ((iH L[i] k).map A7).set k (A7 (L[i])[k])=((iH L[i] k).set k (L[i])[k]).map A7 by rw[List.map_set],XC h32 hkl];exact o9 (k+1) zc slr hkl om
 obtain rfl:k=32:=by omega
 have hA1:AV.agg 32 ((iH L[i] 32).map A7)=hA (W9 L[i]):=by rw[XD h32,hA,QC h32]
 rw[hA1];repeat' first|refine Yz ?_|intro
 refine H7 (λv'=>?_);repeat' first|refine Yz ?_|intro
 refine o9 (i+1,v') zc ?_ ⟨hil,Vu hil h2 (dT h32)⟩ (by dsimp only;omega);dsimp only;rw[List.take_succ_eq_append_getElem hil,List.map_append,List.map_append];exact List.Sublist.cons _ slr⟩
instance a5I {s:Bs}:Ans prog GL 343 [str s] (s.length<=1000000000) (.tup [Z9 (jH s),int (fG s)]):=⟨λhl=>by
 refine ze func343 ntmps343 λ_ hs=>?_;repeat' first|refine Yz ?_|intro
 rw[jH,fG];cases h:mE s
 ·repeat' first|refine Yz ?_|intro
  refine F9 ?_;exact XM
 exact Z5⟩
end Go.Proofs.Z
