/- . -/
import Derived.Test.YtgcmdlboancepaaGreatDoorQ33
set_option maxHeartbeats 64000000
namespace Go.Proofs.Z
open Go Go.RowKit Tw Av Go.Proofs.Tryz
section
attribute [local irreducible] Q4 M0
def Asks (f:FuncId)(cs:List Value)(m:List Av.Piece)(A:EndX->Bool):Prop:=∀ c:EndX,Av.Spec prog GL f (.agg 4 [int c.s,str c.o,str c.q,str c.p]::cs.map .lit) m λu m'=>u=d9 (A c)/\m'=m
def LJ (d:List Ent)(i:Bs)(A:EndX->Bool):AV:=.tup [pF (C9 d [72] i),str (if jP d i A=0 then R9 d i else []),d9 (decide (jP d i A=0)&&nU d i),int (jP d i A)]
theorem ZO {f:FuncId}[FnB prog f]{cs:List Value}{m:List Av.Piece}{A:EndX->Bool}{d:List Ent}{h t:Int}{i:Bs}(ha:Asks f cs m A)(hc:∀ v∈cs,v.oneCell'=true)(hd:DOk d) :
  Av.Spec prog GL 208 [.agg 3 [dA d,int h,int t],str i,E5 f cs] m λu m'=>u=LJ d i A/\m'=m:=by
 refine ze func208 ntmps208 λ_ hs=>?_;repeat' first|refine Z ?_|intro
 rename_i g1 g2;unfold LJ jP;cases h1:M0 d [72] i
 ·rw[if_pos rfl];repeat' first|refine Z ?_|intro
  refine l9 m ⟨rfl,rfl⟩ ?_;exact u7
 rw[if_neg (show ¬ true=false by decide)];repeat' first|refine Z ?_|intro
 by_cases h2:(C9 d [72] i).s=3
 rotate_left
 ·rw[dT h2];repeat' first|refine Z ?_|intro
  refine l9 m ⟨?_,rfl⟩ ?_
  ·simp[h2,D8]
  exact u7
 rw[dZ (nni h2)];repeat' first|refine Z ?_|intro
 first|refine dD ?_|skip
 refine gU (args:=[pF (C9 d [72] i)]) (cs:=cs) m [Av.Piece.var g2 268 (pF (C9 d [72] i)),.var g1 116 (.agg 3 [dA d,int h,int t])] (by rw[hs];exact ha _) (λu m' hh=>?_) (List.perm_append_comm (l₁:=[Av.Piece.var g2 268 (pF (C9 d [72] i)),.var g1 116 (.agg 3 [dA d,int h,int t])]) (l₂:=m)) (hcs:=hc);obtain⟨rfl,rfl⟩:=hh;refine fF (λok w hS=>hS.perm (m':=[Av.Piece.var g2 268 (pF (C9 d [72] i)),.var g1 116 (.agg 3 [dA d,int h,int t])]++m') List.perm_append_comm) ?_;cases h3:A (C9 d [72] i)
 ·repeat' first|refine Z ?_|intro
  refine l9 m' ⟨?_,rfl⟩ ?_
  ·simp[h2,D8]
  exact u7
 rw[if_neg (show ¬ ((C9 d [72] i).s≠3\/true=false) by simp[h2])];repeat' first|refine Z ?_|intro
 refine l9 m' ⟨?_,rfl⟩ ?_
 ·rfl
 exact u7
theorem a0O:Asks 209 [] [] (λ_=>true):=λc=>by
 show Av.Spec _ _ _ [.agg 4 [int c.s,str c.o,str c.q,str c.p]] _ _;refine ze func209 ntmps209 λ_ hs=>?_;repeat' first|refine Z ?_|intro
 refine l9 [] ⟨rfl,rfl⟩ ?_;exact u7
theorem a1E {g:Nat}{x:Pkt}:Asks 216 [.pointer (some ⟨g,0,none⟩)] [.var g 49 (aT x)] (λc=>decide (c.p=x.s)):=λc=>by
 show Av.Spec _ _ _ [.agg 4 [int c.s,str c.o,str c.q,str c.p],ptr g] _ _;refine ze func216 ntmps216 λ_ hs=>?_;repeat' first|refine Z ?_|intro
 refine l9 _ ⟨rfl,rfl⟩ ?_;exact u7
theorem a6R {g:Nat}{x:Pkt}:Asks 318 [.pointer (some ⟨g,0,none⟩)] [.var g 49 (aT x)] (λc=>decide (c.p=x.k)):=λc=>by
 show Av.Spec _ _ _ [.agg 4 [int c.s,str c.o,str c.q,str c.p],ptr g] _ _;refine ze func318 ntmps318 λ_ hs=>?_;repeat' first|refine Z ?_|intro
 refine l9 _ ⟨rfl,rfl⟩ ?_;exact u7
theorem FH {x:Pkt}(h:X3 x=true):x.q<=1099511627776/\x.h<=1099511627776/\x.t<=1099511627776/\1<=x.q:=by
 unfold X3 PD at h;rw[bet,decide_eq_true_iff] at h;obtain⟨⟨h0,h1,_,h2,_,h3,_⟩,_⟩:=h;exact⟨h1,h2,h3,h0⟩
instance b9R {d:List Ent}{h t:Int}{x:TxX}{xs:List AV}[hx:Ents xs d]:Ans prog GL 106 [.agg 3 [.agg 1 [.sl 2 xs none],int h,int t],x9 x] (DOk d/\TxB x) (.tup [dA (qJ d x.x).1,P5 (qJ d x.x).2]):=⟨λhp=>by
 have hp':=hp;obtain⟨hd,hb⟩:=hp;have h':=hx.out;subst h';have b1:=hb.d;have b2:=hb.s;refine ze func106 ntmps106 λ_ hs=>?_;repeat' first|refine Z ?_|intro
 refine H6 (args:=[.agg 3 [dA d,int h,int t],str x.x.s,E5 209 []]) [] _ (by rw[hs];exact ZO a0O sm hd) (λu m' hh=>?_) lpr;obtain⟨rfl,rfl⟩:=hh;unfold LJ qJ goes;repeat' first|refine Z ?_|intro
 by_cases h1:jP d x.x.s (λ_=>true)=0
 rotate_left
 ·rw[if_pos h1,dT h1];exact j4
 rw[if_neg (nni h1),dZ (nni h1),dT h1,if_pos h1,Bool.true_and];repeat' first|refine Z ?_|intro
 unfold iL;cases h2:X3 ⟨V8 d x.x.s,x.x.s,(C9 d [72] x.x.s).p,x.x.d,x.x.a,x.x.f,x.x.g,x.x.h,x.x.t⟩
 ·rw[if_pos rfl,if_neg (show ¬ false=true by decide),dT (show (1:Int)≠0 by decide)];exact j4
 rw[if_neg (show ¬ true=false by decide),if_pos rfl,dZ (show ¬ (0:Int)≠0 by decide)];repeat' first|refine Z ?_|intro
 cases h3:nU d x.x.s
 ·rw[if_pos (.inl rfl)];exact j4
 repeat' first|refine Z ?_|intro
 cases h4:Q4 d (R9 d x.x.s)
 ·rw[if_pos (.inr rfl)];exact j4
 rw[if_neg (show ¬ (true=false\/true=false) by decide)];repeat' first|refine Z ?_|intro
 cases h5:V9 ⟨V8 d x.x.s,x.x.s,(C9 d [72] x.x.s).p,x.x.d,x.x.a,x.x.f,x.x.g,x.x.h,x.x.t⟩ (dK (U9 d (R9 d x.x.s)).l).h (dK (U9 d (R9 d x.x.s)).l).t;rotate_left
 ·rw[if_pos rfl];exact j4
 rw[if_neg (show ¬ false=true by decide)];have q1:DOk d/\x.x.s.length<=1000000000/\x.x.d.length<=1000000000:=⟨hd,om,om⟩;have q2:V8 d x.x.s<=1099511627776/\x.x.h<=1099511627776/\x.x.t<=1099511627776/\1<=V8 d x.x.s:=FH h2;obtain⟨q3,q4,q5,q8⟩:=q2;have q6:DOk (eU d ⟨V8 d x.x.s,x.x.s,(C9 d [72] x.x.s).p,x.x.d,x.x.a,x.x.f,x.x.g,x.x.h,x.x.t⟩).1:=UF hd;repeat' first|refine Z ?_|intro
 unfold Y7;dsimp only;by_cases h6:(eU d ⟨V8 d x.x.s,x.x.s,(C9 d [72] x.x.s).p,x.x.d,x.x.a,x.x.f,x.x.g,x.x.h,x.x.t⟩).2=0
 rotate_left
 ·rw[if_neg h6,dZ h6];repeat' first|refine Z ?_|intro
  rw[dZ h6];exact j4
 rw[if_pos h6,dT h6];repeat' first|refine Z ?_|intro
 have q7:DOk (P7 (eU d ⟨V8 d x.x.s,x.x.s,(C9 d [72] x.x.s).p,x.x.d,x.x.a,x.x.f,x.x.g,x.x.h,x.x.t⟩).1 (F6 [80] x.x.s (V8 d x.x.s)) (aM ⟨V8 d x.x.s,x.x.s,(C9 d [72] x.x.s).p,x.x.d,x.x.a,x.x.f,x.x.g,x.x.h,x.x.t⟩)).1:=xQ q6;by_cases h7:(P7 (eU d ⟨V8 d x.x.s,x.x.s,(C9 d [72] x.x.s).p,x.x.d,x.x.a,x.x.f,x.x.g,x.x.h,x.x.t⟩).1 (F6 [80] x.x.s (V8 d x.x.s)) (aM ⟨V8 d x.x.s,x.x.s,(C9 d [72] x.x.s).p,x.x.d,x.x.a,x.x.f,x.x.g,x.x.h,x.x.t⟩)).2=0
 rotate_left
 ·rw[if_neg h7,dZ h7];exact j4
 rw[if_pos h7,dT h7];exact j4⟩
end

section
variable {k:Bs}{d:List Ent}
attribute [local irreducible] Q4 M0
def Eb (n:Int):Prop:=0<=n/\n<256
theorem e0:Eb 0:=⟨dc,dc⟩
theorem e1:Eb 1:=⟨dc,dc⟩
theorem yE:Eb 11:=⟨dc,dc⟩
theorem yD:Eb 15:=⟨dc,dc⟩
theorem yC:Eb 16:=⟨dc,dc⟩
theorem yB:Eb 17:=⟨dc,dc⟩
theorem Iy {v:Bs}:Eb (P7 d k v).2:=by
 unfold P7;split
 ·first|exact e0|exact e1|exact yE|exact yD|exact yC|exact yB
 unfold M6;split <;> (try split) <;> (try split) <;> first|exact e0|exact e1|exact yE|exact yD|exact yC|exact yB
theorem WP {n:Wd}:Eb (iU k n d).2:=by
 unfold iU;split
 ·exact Iy
 first|exact e0|exact e1|exact yE|exact yD|exact yC|exact yB
theorem a3N {n:Wd}:Eb (iG k n d).2:=by
 unfold iG;split
 ·first|exact e0|exact e1|exact yE|exact yD|exact yC|exact yB
 split
 ·first|exact e0|exact e1|exact yE|exact yD|exact yC|exact yB
 exact Iy
theorem Dh {a b:List Ent->List Ent × Int}(ha:∀ d,Eb (a d).2)(hb:∀ d,Eb (b d).2):Eb (Y7 a b d).2:=by
 unfold Y7;split
 ·exact hb _
 exact ha _
theorem a3z {a c:Bs}{n:Wd}:Eb (aJ d a c n).2:=by
 unfold aJ;split
 ·first|exact e0|exact e1|exact yE|exact yD|exact yC|exact yB
 split
 ·first|exact e0|exact e1|exact yE|exact yD|exact yC|exact yB
 exact Dh (λ_=>WP) (λ_=>WP)
theorem a3j {a b c:Bs}{n:Wd}:Eb (bC d a b c n).2:=by
 unfold bC;split
 ·first|exact e0|exact e1|exact yE|exact yD|exact yC|exact yB
 split
 ·first|exact e0|exact e1|exact yE|exact yD|exact yC|exact yB
 exact Dh (λ_=>a3N) (λ_=>WP)
theorem Hq {x:Pkt}:0<=(aI d x).2/\(aI d x).2<256:=by
 show Eb _;unfold aI;split
 ·exact⟨dc,dc⟩
 split
 ·exact a3j
 exact a3z
instance b9S {h t:Int}{x:TxX}{xs:List AV}[hx:Ents xs d]:Ans prog GL 107 [.agg 3 [.agg 1 [.sl 2 xs none],int h,int t],x9 x] (DOk d/\TxB x) (.tup [dA (qW d x h t).1,P5 (qW d x h t).2]):=⟨λhp=>by
 have hp':=hp;obtain⟨hd,hb⟩:=hp;have h':=hx.out;subst h';have b1:=hb.d;have b2:=hb.s;have b3:=hb.k;refine ze func107 ntmps107 λ_ hs=>?_;repeat' first|refine Z ?_|intro
 unfold qW iL;cases h1:X3 x.x
 ·rw[if_pos rfl,if_neg (show ¬ false=true by decide),dT (show (1:Int)≠0 by decide)];exact j4
 rw[if_neg (show ¬ true=false by decide),if_pos rfl,dZ (show ¬ (0:Int)≠0 by decide)];obtain⟨q1,q2,q3,q4⟩:=FH h1;repeat' first|refine Z ?_|intro
 rename_i g2 g3 g4 g5 g6;refine Y3 (vs:=[.pointer (some ⟨g6,0,none⟩)]) ?_;refine H6 (args:=[.agg 3 [dA d,int h,int t],str x.x.k,E5 216 [.pointer (some ⟨g6,0,none⟩)]]) [.var g6 49 (aT x.x)] _ (by rw[hs];exact ZO a1E (by simp[Value.oneCell']) hd) (λu m' hh=>?_) lpr;obtain⟨rfl,rfl⟩:=hh;unfold LJ;repeat' first|refine Z ?_|intro
 by_cases h2:jP d x.x.k (λc=>decide (c.p=x.x.s))=0
 rotate_left
 ·rw[if_pos h2,dT h2];exact j4
 rw[if_neg (nni h2),dZ (nni h2),dT h2,if_pos h2,Bool.true_and];repeat' first|refine Z ?_|intro
 cases h3:V9 x.x h t;rotate_left
 ·rw[if_pos rfl];exact j4
 rw[if_neg (show ¬ false=true by decide)];repeat' first|refine Z ?_|intro
 cases h4:(gO d (F6 [71] x.x.k x.x.q)).isSome;rotate_left
 ·rw[if_pos rfl];exact j4
 rw[if_neg (show ¬ false=true by decide)];repeat' first|refine Z ?_|intro
 cases h5:nU d x.x.k
 ·rw[if_pos rfl];exact j4
 rw[if_neg (show ¬ true=false by decide)];repeat' first|refine Z ?_|intro
 by_cases h6:bK d (R9 d x.x.k) x.t t (F6 [80] x.x.s x.x.q) (aM x.x) x.f=0
 rotate_left
 ·rw[if_pos h6,dT h6];exact j4
 rw[if_neg (nni h6),dZ (nni h6)];have q5:DOk d/\x.x.s.length<=400000000/\x.x.d.length<=400000000/\x.x.k.length<=400000000:=⟨hd,b2,b1,b3⟩;have q6:DOk (aI d x.x).1:=VG hd;have q7:=Hq (d:=d) (x:=x.x);unfold xB;repeat' first|refine Z ?_|intro
 by_cases h7:(aI d x.x).2=0
 ·rw[if_pos h7,if_pos h7,dZ (nni h7)];exact j4
 rw[if_neg h7,if_neg h7,dT h7];have q9:(CS (aI d x.x).2).length<=1000000000:=by
  unfold CS;exact(by decide:2<=1000000000)
 exact j4⟩
end

section
attribute [local irreducible] Q4 M0
def Shows (f:FuncId)(cs:List Value)(m:List Av.Piece)(i k:Bs)(b:Bool)(e:Int):Prop:=Av.Spec prog GL f (str i::str k::cs.map .lit) m λu m'=>u=.tup [d9 b,int e]/\m'=m
theorem Qw {f:FuncId}[FnB prog f]{cs:List Value}{m:List Av.Piece}{d:List Ent}{h t:Int}{x:Pkt}{b:Bool}{e:Int}(ha:Shows f cs m (R9 d x.s) (F6 [71] x.k x.q) b e)(hc:∀ v∈cs,v.oneCell'=true)(hd:DOk d)(hk:X3 x=true)(hb1:x.s.length<=400000000)(hb2:x.d.length<=400000000) :
  Av.Spec prog GL 223 [.agg 3 [dA d,int h,int t],aT x,E5 f cs] m λu m'=>u=.tup [dA (vR d x b e).1,P5 (vR d x b e).2]/\m'=m:=by
 obtain⟨q1,q2,q3,q4⟩:=FH hk;unfold vR;refine ze func223 ntmps223 λ_ hs=>?_;repeat' first|refine Z ?_|intro
 rename_i g1 g2 g3 g4;refine Y3 (vs:=[.pointer (some ⟨g2,0,none⟩)]) ?_;refine H6 (args:=[.agg 3 [dA d,int h,int t],str x.s,E5 318 [.pointer (some ⟨g2,0,none⟩)]]) [.var g2 49 (aT x)] (.var g4 67 (.agg 3 [.lit (.int .i64 0),.lit (.int .i64 0),str []])::.var g3 64 (.agg 1 [.lit (.slice none 0 0)])::.var g1 116 (.agg 3 [dA d,int h,int t])::m) (by rw[hs];exact ZO a6R (by simp[Value.oneCell']) hd) (λu m' hh=>?_) (List.perm_middle (l₁:=[Av.Piece.var g4 67 (.agg 3 [.lit (.int .i64 0),.lit (.int .i64 0),str []]),Av.Piece.var g3 64 (.agg 1 [.lit (.slice none 0 0)])]) (l₂:=Av.Piece.var g1 116 (.agg 3 [dA d,int h,int t])::m));obtain⟨rfl,rfl⟩:=hh;unfold LJ;repeat' first|refine Z ?_|intro
 by_cases h2:jP d x.s (λc=>decide (c.p=x.k))=0
 rotate_left
 ·rw[if_pos h2,dT h2];repeat' first|refine Z ?_|intro
  refine l9 m ⟨rfl,rfl⟩ ?_;exact u7
 rw[if_neg (nni h2),dZ (nni h2),dT h2,if_pos h2,Bool.true_and];repeat' first|refine Z ?_|intro
 cases hg:gO d (F6 [80] x.s x.q) with
 | none=>
  rw[if_pos (.inl sm)];repeat' first|refine Z ?_|intro
  refine l9 m ⟨rfl,rfl⟩ ?_;exact u7
 | some v=>
 have hv:N8 d (F6 [80] x.s x.q)=v:=by
  unfold N8;rw[hg];rfl
 rw[hv];repeat' first|refine Z ?_|intro
 by_cases h3:v=aM x
 rotate_left
 ·rw[if_pos (.inl (λe=>h3 (Option.some.inj e))),dT h3];repeat' first|refine Z ?_|intro
  refine l9 m ⟨rfl,rfl⟩ ?_;exact u7
 rw[dZ (nni h3)];repeat' first|refine Z ?_|intro
 cases h4:nU d x.s
 ·rw[if_pos (.inr rfl)];repeat' first|refine Z ?_|intro
  refine l9 m ⟨rfl,rfl⟩ ?_;exact u7
 rw[if_neg (show ¬ (some v≠some (aM x)\/true=false) by rw[h3];simp)];repeat' first|refine Z ?_|intro
 rename_i g5;refine gU (args:=[str (R9 d x.s),str (F6 [71] x.k x.q)]) (cs:=cs) m [Av.Piece.var g5 268 (pF (C9 d [72] x.s)),.var g2 49 (aT x),.var g4 67 (.agg 3 [.lit (.int .i64 0),.lit (.int .i64 0),str []]),.var g3 64 (.agg 1 [.lit (.slice none 0 0)]),.var g1 116 (.agg 3 [dA d,int h,int t])] (by rw[hs];exact ha) (λu m' hh=>?_) (List.perm_append_comm (l₁:=[Av.Piece.var g5 268 (pF (C9 d [72] x.s)),.var g2 49 (aT x),.var g4 67 (.agg 3 [.lit (.int .i64 0),.lit (.int .i64 0),str []]),.var g3 64 (.agg 1 [.lit (.slice none 0 0)]),.var g1 116 (.agg 3 [dA d,int h,int t])]) (l₂:=m)) (hcs:=hc);obtain⟨rfl,rfl⟩:=hh;refine fF (λok w hS=>hS.perm (m':=[Av.Piece.var g5 268 (pF (C9 d [72] x.s)),.var g2 49 (aT x),.var g4 67 (.agg 3 [.lit (.int .i64 0),.lit (.int .i64 0),str []]),.var g3 64 (.agg 1 [.lit (.slice none 0 0)]),.var g1 116 (.agg 3 [dA d,int h,int t])]++m') List.perm_append_comm) ?_;repeat' first|refine Z ?_|intro
 by_cases h5:e=0
 rotate_left
 ·rw[if_pos h5,dT h5];repeat' first|refine Z ?_|intro
  refine l9 m' ⟨rfl,rfl⟩ ?_;exact u7
 rw[if_neg (nni h5),dZ (nni h5)];repeat' first|refine Z ?_|intro
 have q5:DOk d/\x.s.length<=1000000000/\x.d.length<=1000000000:=⟨hd,om,om⟩;have q6:DOk (jZ d x).1:=Am hd;cases b
 ·rw[if_neg (λe=>by cases e.1),if_neg (show ¬ false=true by decide)];repeat' first|refine Z ?_|intro
  rw[dZ (nni h5)];repeat' first|refine Z ?_|intro
  refine l9 m' ⟨rfl,rfl⟩ ?_;exact u7
 by_cases h6:(jZ d x).2=0
 rotate_left
 ·rw[if_pos ⟨rfl,h6⟩];repeat' first|refine Z ?_|intro
  rw[dT h6];repeat' first|refine Z ?_|intro
  refine l9 m' ⟨rfl,rfl⟩ ?_;exact u7
 rw[if_neg (λe=>e.2 h6),if_pos rfl];repeat' first|refine Z ?_|intro
 rw[dZ (nni h6)];repeat' first|refine Z ?_|intro
 refine l9 m' ⟨rfl,rfl⟩ ?_;exact u7
end

section
variable {x:TxX}{h t:Int}{d:List Ent}
attribute [local irreducible] Q4 M0 V9
abbrev lA (d:List Ent)(h t:Int):AV:=.agg 3 [dA d,int h,int t]
theorem b0A {n:Int}{i k:Bs}{g1 g2 g3:Nat}(hp:DOk d/\TxB x):Shows 224 [.pointer (some ⟨g3,0,none⟩),.pointer (some ⟨g1,0,none⟩),.pointer (some ⟨g2,0,none⟩)] [.var g3 65 (int n),.var g2 57 (x9 x),.var g1 116 (lA d h t)] i k (decide (n≠0)) (bK d i x.t t k (xP x.a) x.f):=by
 have b1:=hp.2.a;show Av.Spec _ _ _ [str i,str k,ptr g3,ptr g1,ptr g2] _ _;refine ze func224 ntmps224 λ_ hs=>?_;repeat' first|refine Z ?_|intro
 refine l9 _ ⟨rfl,rfl⟩ ?_;exact u7
theorem Zu {g1 g2:Nat}(hp:DOk d/\TxB x):Shows 225 [.pointer (some ⟨g1,0,none⟩),.pointer (some ⟨g2,0,none⟩)] [.var g2 57 (x9 x),.var g1 116 (lA d h t)] (R9 d x.x.s) (F6 [71] x.x.k x.x.q) true (wI d x t):=by
 obtain⟨hd,hb⟩:=hp;have q1:DOk d/\x.g.a.m<=9223372036854775807/\x.g.b.m<=9223372036854775807:=⟨hd,hb.gm⟩;show Av.Spec _ _ _ [str (R9 d x.x.s),str (F6 [71] x.x.k x.x.q),ptr g1,ptr g2] _ _;unfold wI;refine ze func225 ntmps225 λ_ hs=>?_;repeat' first|refine Z ?_|intro
 by_cases h1:lL d (R9 d x.x.s) x.t t (F6 [71] x.x.k x.x.q) x.g=0
 rotate_left
 ·rw[if_neg (λe=>h1 e.1),dZ h1];repeat' first|refine Z ?_|intro
  refine l9 _ ⟨rfl,rfl⟩ ?_;exact u7
 rw[dT h1];repeat' first|refine Z ?_|intro
 cases h2:V9 x.x (mV d (R9 d x.x.s) x.t t (F6 [71] x.x.k x.x.q) x.g).h (mV d (R9 d x.x.s) x.t t (F6 [71] x.x.k x.x.q) x.g).t
 ·rw[if_pos ⟨h1,rfl⟩];repeat' first|refine Z ?_|intro
  refine l9 _ ⟨rfl,rfl⟩ ?_;exact u7
 rw[if_neg (λe=>by cases e.2)];repeat' first|refine Z ?_|intro
 refine l9 _ ⟨rfl,rfl⟩ ?_;exact u7
instance b9Q {xs:List AV}[hx:Ents xs d]:Ans prog GL 109 [.agg 3 [.agg 1 [.sl 2 xs none],int h,int t],x9 x] (DOk d/\TxB x) (.tup [dA (tH d x t).1,P5 (tH d x t).2]):=⟨λhp=>by
 have hp':=hp;obtain⟨hd,hb⟩:=hp;have h':=hx.out;subst h';have b1:=hb.d;have b2:=hb.s;refine ze func109 ntmps109 λ_ hs=>?_;repeat' first|refine Z ?_|intro
 rename_i g1 g2 g3 g4;unfold tH iL;cases h1:X3 x.x
 ·rw[if_pos rfl,if_neg (show ¬ false=true by decide),dT (show (1:Int)≠0 by decide)];exact j4
 rw[if_neg (show ¬ true=false by decide),if_pos rfl,dZ (show ¬ (0:Int)≠0 by decide)];repeat' first|refine Z ?_|intro
 refine Y3 (vs:=[.pointer (some ⟨g1,0,none⟩),.pointer (some ⟨g2,0,none⟩)]) ?_;refine H6 (args:=[lA d h t,aT x.x,E5 225 [.pointer (some ⟨g1,0,none⟩),.pointer (some ⟨g2,0,none⟩)]]) [.var g2 57 (x9 x),.var g1 116 (lA d h t)] [Av.Piece.var g4 67 (.agg 3 [.lit (.int .i64 0),.lit (.int .i64 0),str []]),Av.Piece.var g3 64 (.agg 1 [.lit (.slice none 0 0)])] (by rw[hs];exact Qw (Zu hp') (by simp[Value.oneCell']) hd h1 b2 b1) (λu m' hh=>?_) (List.perm_append_comm (l₁:=[Av.Piece.var g4 67 (.agg 3 [.lit (.int .i64 0),.lit (.int .i64 0),str []]),Av.Piece.var g3 64 (.agg 1 [.lit (.slice none 0 0)])]) (l₂:=[Av.Piece.var g2 57 (x9 x),.var g1 116 (lA d h t)]));obtain⟨rfl,rfl⟩:=hh;exact j4⟩
instance c0c {xs:List AV}[hx:Ents xs d]:Ans prog GL 108 [.agg 3 [.agg 1 [.sl 2 xs none],int h,int t],x9 x] (DOk d/\TxB x) (.tup [dA (uN d x t).1,P5 (uN d x t).2]):=⟨λhp=>by
 have hp':=hp;obtain⟨hd,hb⟩:=hp;have h':=hx.out;subst h';have b1:=hb.d;have b2:=hb.s;refine ze func108 ntmps108 λ_ hs=>?_;repeat' first|refine Z ?_|intro
 rename_i g1 g2 g3 g4 g5;unfold uN iL;cases h1:X3 x.x
 ·rw[if_pos (.inl rfl),if_neg (show ¬ false=true by decide),dT (show (1:Int)≠0 by decide)];exact j4
 rw[if_pos rfl,dZ (show ¬ (0:Int)≠0 by decide)];cases h2:wD x.a
 ·rw[if_pos (.inr rfl)];exact j4
 rw[if_neg (show ¬ (true=false\/true=false) by decide)];repeat' first|refine Z ?_|intro
 refine Y3 (vs:=[.pointer (some ⟨g5,0,none⟩),.pointer (some ⟨g1,0,none⟩),.pointer (some ⟨g2,0,none⟩)]) ?_;refine H6 (args:=[lA d h t,aT x.x,E5 224 [.pointer (some ⟨g5,0,none⟩),.pointer (some ⟨g1,0,none⟩),.pointer (some ⟨g2,0,none⟩)]]) [Av.Piece.var g5 65 (int (yP x.a)),.var g2 57 (x9 x),.var g1 116 (lA d h t)] [Av.Piece.var g4 67 (.agg 3 [.lit (.int .i64 0),.lit (.int .i64 0),str []]),Av.Piece.var g3 64 (.agg 1 [.lit (.slice none 0 0)])] (by rw[hs];exact Qw (b0A hp') (by simp[Value.oneCell']) hd h1 b2 b1) (λu m' hh=>?_) (List.Perm.cons _ (List.perm_append_comm (l₁:=[Av.Piece.var g4 67 (.agg 3 [.lit (.int .i64 0),.lit (.int .i64 0),str []]),Av.Piece.var g3 64 (.agg 1 [.lit (.slice none 0 0)])]) (l₂:=[Av.Piece.var g2 57 (x9 x),.var g1 116 (lA d h t)])));obtain⟨rfl,rfl⟩:=hh;exact j4⟩
end

section
variable {h k t:Int}{x:TxX}{d:List Ent}
def gL (k:Int):AV:=
 if k=1 then E5 98 [] else if k=2 then E5 99 [] else if k=3 then E5 100 [] else if k=4 then E5 101 [] else if k=5 then E5 102 [] else if k=6 then E5 102 [] else if k=7 then E5 103 [] else if k=8 then E5 103 [] else if k=9 then E5 104 [] else if k=10 then E5 104 [] else if k=11 then E5 105 [] else if k=12 then E5 105 [] else if k=13 then E5 106 [] else if k=14 then E5 107 [] else if k=15 then E5 108 [] else if k=16 then E5 109 [] else .lit .nilFunc
theorem a8d:gL 1=E5 98 []:=rfl
theorem do1 (e:x.k=1):H9 d x h t=AF d x.x:=by
 unfold H9;rw[e];rfl
theorem a7Z:gL 2=E5 99 []:=rfl
theorem do2 (e:x.k=2):H9 d x h t=zS d x.x:=by
 unfold H9;rw[e];rfl
theorem Ub:gL 3=E5 100 []:=rfl
theorem QS (e:x.k=3):H9 d x h t=pI d x:=by
 unfold H9;rw[e];rfl
theorem Ua:gL 4=E5 101 []:=rfl
theorem YQ (e:x.k=4):H9 d x h t=qG d x t:=by
 unfold H9;rw[e];rfl
theorem a7Y:gL 5=E5 102 []:=rfl
theorem do5 (e:x.k=5):H9 d x h t=AX d x t:=by
 unfold H9;rw[e];rfl
theorem a7X:gL 6=E5 102 []:=rfl
theorem do6 (e:x.k=6):H9 d x h t=AX d x t:=by
 unfold H9;rw[e];rfl
theorem a7W:gL 7=E5 103 []:=rfl
theorem do7 (e:x.k=7):H9 d x h t=AY d x t:=by
 unfold H9;rw[e];rfl
theorem a7V:gL 8=E5 103 []:=rfl
theorem do8 (e:x.k=8):H9 d x h t=AY d x t:=by
 unfold H9;rw[e];rfl
theorem a7U:gL 9=E5 104 []:=rfl
theorem do9 (e:x.k=9):H9 d x h t=zO d x t:=by
 unfold H9;rw[e];rfl
theorem a8c:gL 10=E5 104 []:=rfl
theorem a7o (e:x.k=10):H9 d x h t=zO d x t:=by
 unfold H9;rw[e];rfl
theorem a8b:gL 11=E5 105 []:=rfl
theorem a7n (e:x.k=11):H9 d x h t=zP d x t:=by
 unfold H9;rw[e];rfl
theorem a8a:gL 12=E5 105 []:=rfl
theorem a7m (e:x.k=12):H9 d x h t=zP d x t:=by
 unfold H9;rw[e];rfl
theorem Uf:gL 13=E5 106 []:=rfl
theorem YU (e:x.k=13):H9 d x h t=qJ d x.x:=by
 unfold H9;rw[e];rfl
theorem Ue:gL 14=E5 107 []:=rfl
theorem YT (e:x.k=14):H9 d x h t=qW d x h t:=by
 unfold H9;rw[e];rfl
theorem Ud:gL 15=E5 108 []:=rfl
theorem YS (e:x.k=15):H9 d x h t=uN d x t:=by
 unfold H9;rw[e];rfl
theorem Uc:gL 16=E5 109 []:=rfl
theorem YR (e:x.k=16):H9 d x h t=tH d x t:=by
 unfold H9;rw[e];rfl
theorem a7T (h:¬ (1<=k/\k<=16)):gL k=.lit .nilFunc:=by
 unfold gL;repeat rw[if_neg om]
theorem doN (e:¬ (1<=x.k/\x.k<=16)):H9 d x h t=O6 d 1:=by
 unfold H9;repeat rw[if_neg om]
attribute [local irreducible] Q4 M0 V9 AF zS pI qG AX AY zO zP qJ qW uN tH gL H9
section
variable {P:Program} {N:Nat} {ops:Array Oper} {Q:Exit->Act->World->Prop} {rest:List Oper} {s:Av.Base} {e:Av.Env} {m:List Av.Piece} {d:Nat} {ty:TypeId} {pos:String} {af:Array Edge}
def XH:Option TypeDesc->Bool
 | some (.func _ _ _)=>true
 | _=>false
theorem a4r {o:Option TypeDesc}(h:XH o=true):∃ A B C,o=some (.func A B C):=by
 unfold XH at h;split at h
 ·exact⟨_,_,_,rfl⟩
 cases h
theorem IB {op:BinOp}{T yT:TypeId}(hT:XH (P.underlying T)=true){x y:Operand}{f:FuncId}{cs:List Value}{c:Bool}(h:AL P N ops Q s rest ((d,d9 c)::e) m)(hx:Av.ev e x=some (E5 f cs):=by exact rfl)(hy:Av.ev e y=some (.lit .nilFunc):=by exact rfl)(hc:AJ op false=some c:=by exact rfl)(hd:Nat.blt d N=true:=by exact rfl):AL P N ops Q s (⟨some d,.binOp op T x y yT,ty,pos,af,none⟩::rest) e m:=
 R6 rfl (λok w A hA=>by
  obtain⟨_,_,_,ht⟩:=a4r hT;exact NN (hA.lit hx) (hA.lit hy) sm sm sm sm (by unfold eqGuard;cases op <;> rfl) (by
  have h:∀ d:Nat,(Op.equalIn (d+1) T (.func (.func f) #[] cs.toArray) .nilFunc).run P w=.ok false w:=λd=>by simp[Op.equalIn,run_underlying ht]
  exact h 9999) hc) hd h
end
theorem kinds (h:1<=k/\k<=16):k=1\/k=2\/k=3\/k=4\/k=5\/k=6\/k=7\/k=8\/k=9\/k=10\/k=11\/k=12\/k=13\/k=14\/k=15\/k=16:=by omega
instance c1d :Ans prog GL 45 [int k] True (gL k):=⟨λ_=>by
 refine ze func45 ntmps45 λ_ hs=>?_;by_cases h:1<=k/\k<=16
 ·rcases kinds h with rfl|rfl|rfl|rfl|rfl|rfl|rfl|rfl|rfl|rfl|rfl|rfl|rfl|rfl|rfl|rfl
  all_goals
   repeat' first|refine Z ?_|intro
   refine j6 ?_;first|exact a8d.symm|exact a7Z.symm|exact Ub.symm|exact Ua.symm|exact a7Y.symm|exact a7X.symm|exact a7W.symm|exact a7V.symm|exact a7U.symm|exact a8c.symm|exact a8b.symm|exact a8a.symm|exact Uf.symm|exact Ue.symm|exact Ud.symm|exact Uc.symm
 repeat' first|refine Z ?_|intro
 refine j6 ?_;exact(a7T h).symm⟩
end
end Go.Proofs.Z

namespace Go.Proofs.Z
open Go Go.RowKit Tw Av
section
variable {d:List Ent}{k:Bs}{b:Bool}
theorem IZ {r:List Ent × Int}{p:Rep}(h:DOk d)(hr:DOk r.1):DOk (iO d r p).1:=by
 unfold iO O6;split
 ·exact hr
 exact h
theorem JU {v:Bs}(h:DOk d):DOk (rC d k v).1:=IZ h (xQ h)
theorem Vb {x:TxX}{i:Bs}{t:Int}(h:DOk d):DOk (GU d x i k b t).1:=by
 unfold GU;repeat' (first|exact h|exact JU h|split)
theorem Mq {x:TxX}{own:EndX}{i:Bs}{t:Int}(h:DOk d):DOk (FW d x own i k b t).1:=by
 cases b
 ·rw[Mo];unfold FX;split
  ·exact h
  split
  ·exact h
  exact JU h
 rw[Mm];unfold FX;split
 ·exact h
 split
 ·exact h
 exact JU h
theorem Qy {x:Pkt}{e:Int}(h:DOk d):DOk (vR d x b e).1:=by
 unfold vR;split
 ·exact h
 split
 ·exact h
 split
 ·exact h
 split
 ·exact h
 refine DOk.drp ?_ _;split
 ·exact Am h
 exact h
section
variable {d:List Ent} {x:TxX} {h t:Int} (hd:DOk d)
include hd
theorem a5n:DOk (AF d x.x).1:=by
 unfold AF;split
 ·exact hd
 exact IZ hd (xW hd)
theorem a3k:DOk (zS d x.x).1:=by
 unfold zS;split
 ·exact hd
 exact IZ hd (PI hd)
theorem a7B:DOk (pI d x).1:=by
 unfold pI;split
 ·exact hd
 split
 ·exact hd
 split
 ·exact hd
 exact JU hd
theorem Yv:DOk (qG d x t).1:=by
 unfold qG;split
 ·exact hd
 split
 ·exact hd
 exact JU hd
theorem Sl:DOk (AX d x t).1:=by
 unfold AX;split
 ·exact hd
 split
 ·exact hd
 split
 ·exact hd
 exact Vb hd
theorem Sn:DOk (AY d x t).1:=by
 unfold AY;split
 ·exact hd
 exact Mq hd
theorem Jw:DOk (zO d x t).1:=by
 unfold zO;split
 ·exact hd
 split
 ·exact hd
 split
 ·exact hd
 split
 ·exact hd
 exact Vb hd
theorem Jz:DOk (zP d x t).1:=by
 unfold zP;split
 ·exact hd
 exact Mq hd
theorem a0D:DOk (qJ d x.x).1:=by
 unfold qJ;split
 ·exact hd
 split
 ·exact hd
 split
 ·exact hd
 split
 ·exact hd
 exact IZ hd (IX hd (λd h=>UF h) (λd h=>IX h (λd h=>xQ h) (λd h=>xQ h)))
theorem a1P:DOk (qW d x h t).1:=by
 have h1:DOk (if (aI d x.x).2=0 then (aI d x.x).1 else d):=by
  split
  ·exact VG hd
  exact hd
 unfold qW;generalize (if (aI d x.x).2=0 then (aI d x.x).1 else d)=D at *;split
 ·exact hd
 split
 ·exact hd
 split
 ·exact hd
 split
 ·exact hd
 split
 ·exact hd
 split
 ·exact hd
 exact IZ hd (xQ h1)
theorem b0z:DOk (uN d x t).1:=by
 unfold uN;split
 ·exact hd
 exact Qy hd
theorem Zy:DOk (tH d x t).1:=by
 unfold tH;split
 ·exact hd
 exact Qy hd
theorem YP:DOk (H9 d x h t).1:=by
 by_cases hk:1<=x.k/\x.k<=16
 rotate_left
 ·rw[doN hk];exact hd
 rcases kinds hk with e|e|e|e|e|e|e|e|e|e|e|e|e|e|e|e
 ·rw[do1 e];exact a5n hd
 ·rw[do2 e];exact a3k hd
 ·rw[QS e];exact a7B hd
 ·rw[YQ e];exact Yv hd
 ·rw[do5 e];exact Sl hd
 ·rw[do6 e];exact Sl hd
 ·rw[do7 e];exact Sn hd
 ·rw[do8 e];exact Sn hd
 ·rw[do9 e];exact Jw hd
 ·rw[a7o e];exact Jw hd
 ·rw[a7n e];exact Jz hd
 ·rw[a7m e];exact Jz hd
 ·rw[YU e];exact a0D hd
 ·rw[YT e];exact a1P hd
 ·rw[YS e];exact b0z hd
 rw[YR e];exact Zy hd
end
end

structure BlkX where
 h:Int
 t:Int
 x:List Bs
structure EvX where
 h:Int
 k:Int
 x:Pkt
 a:Bs
deriving DecidableEq
abbrev Q0 (v:EvX):AV:=.agg 15 [int v.h,int v.k,aT v.x,str v.a]
def pE (d:List Ent)(h:Int)(x:TxX)(r:Rep):EvX:=
 ⟨h,x.k,if x.k=13 then { x.x with q:=r.q,k:=(C9 d [72] x.x.s).p } else x.x,if x.k=14 then r.a else if x.k=15 then x.a else []⟩
abbrev Run3:=List Ent × List Rep × List EvX
def zD (h t:Int)(q:Run3)(x:TxX):Run3:=
 ((H9 q.1 x h t).1,q.2.1++[(H9 q.1 x h t).2],if (H9 q.1 x h t).2.e=0/\13<=x.k then q.2.2++[pE (H9 q.1 x h t).1 h x (H9 q.1 x h t).2] else q.2.2)
def iC (h t:Int)(q:Run3)(s:Bs):Run3:=if aG (I6 s)=0 then zD h t q (K6 (I6 s)) else (q.1,q.2.1++[xK 10],q.2.2)
def V6 (h t:Int)(q:Run3)(l:List Bs):Run3:=l.foldl (iC h t) q
def M7 (d:List Ent)(b:BlkX):Run3:=V6 b.h b.t (d,[],[]) b.x
theorem NU (h t:Int)(q:Run3)(s:Bs)(l:List Bs):V6 h t q (s::l)=V6 h t (iC h t q s) l:=by
 unfold V6;exact List.foldl_cons ..
theorem a1j (h t:Int)(q:Run3)(l r:List Bs):V6 h t q (l++r)=V6 h t (V6 h t q l) r:=List.foldl_append
theorem a1h {h t:Int}{q:Run3}{s:Bs}(hd:DOk q.1):DOk (iC h t q s).1:=by
 unfold iC zD;split
 ·exact YP hd
 exact hd
theorem NT {h t:Int}:∀ {l:List Bs} {q:Run3},DOk q.1->DOk (V6 h t q l).1
 | [],_,hd=>hd
 | s::l,q,hd=>by rw[NU];exact NT (a1h hd)
theorem a1e {h t:Int}{q:Run3}{s:Bs}:(iC h t q s).2.1.length=q.2.1.length+1/\(iC h t q s).2.2.length<=q.2.2.length+1:=by
 unfold iC zD;split
 ·refine⟨sm,?_⟩;dsimp only;split
  ·simp
  omega
 simp
theorem ET {h t:Int}:∀ {l:List Bs} {q:Run3},(V6 h t q l).2.1.length=q.2.1.length+l.length/\(V6 h t q l).2.2.length<=q.2.2.length+l.length
 | [],_=>⟨rfl,Nat.le_refl _⟩
 | s::l,q=>by
  have h1:=a1e (h:=h) (t:=t) (q:=q) (s:=s);have h2:=ET (h:=h) (t:=t) (l:=l) (q:=iC h t q s);rw[NU,List.length_cons];omega
def Dw (k a:Int):TxX:=
 ⟨if k=2 then 2 else if k=3 then 3 else if k=5 then 13 else if k=6 then 4 else if k=7 then 14 else 1,
  [107],[],[],[],[107,101,121],9,⟨[98],1+a,0,E9⟩,E9,
  ⟨if k=7 then 1 else 0,if k=5\/k=7 then [99] else [],if k=7 then [99] else [],[120],Q5 a.toNat,[97,110,110],if k=0\/k=1 then [97,110,110] else [98,111,98],if k=5\/k=7 then 100 else 0,0⟩,
  [],0,eD,pX⟩
theorem Xq:GG pX:=⟨dc,⟨dc,by simp[pX],SS⟩,⟨dc,by simp[pX],SS⟩⟩
theorem Zg (x:TxX):(F8 x).length<=1000000000:=by
 unfold F8;refine Nat.le_trans LenLe.out ?_;decide
end Go.Proofs.Z

namespace Go.Proofs.Z
open Go Go.RowKit Tw Av Go.Proofs.Tryz
section
variable {c most:Int}{σ:RS}{g:Nat}
instance VH :AnsM prog GL 181 g [.lit (.int .u8 c),int most] 311 (A8 σ) True (str (gT c most σ)) (A8 (sT c most σ)):=⟨λ_=>(a1L (g:=g) (s:=σ.1.1) (b:=σ.1.2) (c:=c) (most:=most)).spec (by have:=σ.2;omega)⟩
instance a1M :AnsM prog GL 140 g [.lit (.int .u8 c),int most] 311 (A8 σ) (0<=most/\most<=9223372036854775807) (int (gI c most σ)) (A8 (sI c most σ)):=⟨λh=>(a1N (g:=g) (s:=σ.1.1) (b:=σ.1.2) (c:=c) (most:=most)).spec ⟨by have:=σ.2;omega,h⟩⟩
instance b5o :AnsM prog GL 142 g [] 311 (A8 σ) True (int (gZ σ)) (A8 σ):=⟨λh=>(a1O (g:=g) (s:=σ.1.1) (b:=σ.1.2)).spec h⟩
instance kW :AnsM prog GL 259 g [.lit (.int .u8 c),int most] 238 (A8 σ) True (str (gT c most σ)) (A8 (sT c most σ)):=⟨λ_=>(a1o (g:=g) (s:=σ.1.1) (b:=σ.1.2) (c:=c) (most:=most)).spec (by have:=σ.2;omega)⟩
instance zF :AnsM prog GL 156 g [.lit (.int .u8 c),int most] 238 (A8 σ) (0<=most/\most<=9223372036854775807) (int (gI c most σ)) (A8 (sI c most σ)):=⟨λh=>(a1p (g:=g) (s:=σ.1.1) (b:=σ.1.2) (c:=c) (most:=most)).spec ⟨by have:=σ.2;omega,h⟩⟩
instance b5h :AnsM prog GL 158 g [] 238 (A8 σ) True (int (gZ σ)) (A8 σ):=⟨λh=>(a1q (g:=g) (s:=σ.1.1) (b:=σ.1.2)).spec h⟩
end
end Go.Proofs.Z
