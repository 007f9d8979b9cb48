/- . -/
import Derived.Test.YtgcmdlboancepaaGreatDoorQ41
set_option maxHeartbeats 64000000
namespace Go.Proofs.Z
open Go Go.RowKit Tw Av Go.Proofs.Tryz
section
variable {t:Int}{x:TxX}{d:List Ent}{xs:List AV}
attribute [local irreducible] Q4 M0 V9
theorem Zw (h:lL d (R9 d x.x.s) x.t t (F6 [71] x.x.k x.x.q) x.g≠0):wI d x t=lL d (R9 d x.x.s) x.t t (F6 [71] x.x.k x.x.q) x.g:=by
 unfold wI;rw[if_neg (λe=>h e.1)]
theorem Zx (h:lL d (R9 d x.x.s) x.t t (F6 [71] x.x.k x.x.q) x.g=0)(h2:V9 x.x (mV d (R9 d x.x.s) x.t t (F6 [71] x.x.k x.x.q) x.g).h (mV d (R9 d x.x.s) x.t t (F6 [71] x.x.k x.x.q) x.g).t=false):wI d x t=21:=by
 unfold wI;rw[if_pos ⟨h,h2⟩]
theorem Zv (h:lL d (R9 d x.x.s) x.t t (F6 [71] x.x.k x.x.q) x.g=0)(h2:V9 x.x (mV d (R9 d x.x.s) x.t t (F6 [71] x.x.k x.x.q) x.g).h (mV d (R9 d x.x.s) x.t t (F6 [71] x.x.k x.x.q) x.g).t=true):wI d x t=0:=by
 unfold wI;rw[if_neg (λe=>by rw[h2] at e;cases e.2),h]
theorem a2A {k v:Bs}(h:DOk d):DOk (pQ d k v).1:=by
 unfold pQ;split
 ·exact xQ h
 exact .nil
instance b8C {id:Option Value}[hx:Ents xs d]:Ans prog GL 399 [.sl 2 xs id,x9 x] (DOk d/\TxB x) (qA (xF d x.x)):=⟨λhp=>by
 obtain⟨hd,hb⟩:=hp;have b1:=hb.d;have b2:=hb.s;have b3:=hb.f;have b4:=hb.g;obtain⟨l1,l2,l3,l4⟩:=QN d [72] x.x.s;refine ze func399 ntmps399 λ_ hs=>?_;repeat' first|refine Z ?_|intro
 unfold xF BP EM goes nU R9;dsimp only;cases h0:M0 d [72] x.x.s
 ·rw[if_pos rfl];exact j4
 rw[if_neg (show ¬ true=false by decide)];repeat' first|refine Z ?_|intro
 by_cases h1:(C9 d [72] x.x.s).s=3
 rotate_left
 ·rw[if_pos h1,dT h1];exact j4
 rw[if_neg (nni h1),dZ (nni h1)];repeat' first|refine Z ?_|intro
 unfold iL;cases h2:X3 ⟨V8 d x.x.s,x.x.s,(C9 d [72] x.x.s).p,x.x.d,x.x.a,x.x.f,x.x.g,x.x.h,x.x.t⟩
 ·rw[if_pos rfl,if_neg (show ¬ false=true by decide),dT (show (1:Int)≠0 by decide)];exact j4
 rw[if_neg (show ¬ true=false by decide),if_pos rfl,dZ (show ¬ (0:Int)≠0 by decide)];repeat' first|refine Z ?_|intro
 cases h3:M0 d [75] (C9 d [72] x.x.s).o
 ·rw[if_pos (.inl rfl)];exact j4
 repeat' first|refine Z ?_|intro
 cases h4:Q4 d (C9 d [75] (C9 d [72] x.x.s).o).o
 ·rw[if_pos (.inr rfl)];exact j4
 rw[if_neg (show ¬ (true=false\/true=false) by decide)];repeat' first|refine Z ?_|intro
 cases h5:V9 ⟨V8 d x.x.s,x.x.s,(C9 d [72] x.x.s).p,x.x.d,x.x.a,x.x.f,x.x.g,x.x.h,x.x.t⟩ (dK (U9 d (C9 d [75] (C9 d [72] x.x.s).o).o).l).h (dK (U9 d (C9 d [75] (C9 d [72] x.x.s).o).o).l).t;rotate_left
 ·rw[if_pos rfl];exact j4
 rw[if_neg (show ¬ false=true by decide)];have q1:DOk d/\x.x.s.length<=1000000000/\(C9 d [72] x.x.s).p.length<=1000000000/\x.x.d.length<=1000000000/\x.x.f.length<=1000000000/\x.x.g.length<=1000000000:=⟨hd,om,om,om,om,om⟩;obtain⟨q3,q4,q5,q8⟩:V8 d x.x.s<=1099511627776/\x.x.h<=1099511627776/\x.x.t<=1099511627776/\1<=V8 d x.x.s:=FH h2;have q6:DOk (eU d ⟨V8 d x.x.s,x.x.s,(C9 d [72] x.x.s).p,x.x.d,x.x.a,x.x.f,x.x.g,x.x.h,x.x.t⟩).1:=UF hd;have q7:DOk (pQ (eU d ⟨V8 d x.x.s,x.x.s,(C9 d [72] x.x.s).p,x.x.d,x.x.a,x.x.f,x.x.g,x.x.h,x.x.t⟩).1 (F6 [80] x.x.s (V8 d x.x.s)) (aM ⟨V8 d x.x.s,x.x.s,(C9 d [72] x.x.s).p,x.x.d,x.x.a,x.x.f,x.x.g,x.x.h,x.x.t⟩)).1:=a2A q6;repeat' first|refine Z ?_|intro
 by_cases h6:(eU d ⟨V8 d x.x.s,x.x.s,(C9 d [72] x.x.s).p,x.x.d,x.x.a,x.x.f,x.x.g,x.x.h,x.x.t⟩).2=0
 rotate_left
 ·rw[if_pos h6,dT h6];exact j4
 rw[if_neg (nni h6),dZ (nni h6)];repeat' first|refine Z ?_|intro
 by_cases h7:(pQ (eU d ⟨V8 d x.x.s,x.x.s,(C9 d [72] x.x.s).p,x.x.d,x.x.a,x.x.f,x.x.g,x.x.h,x.x.t⟩).1 (F6 [80] x.x.s (V8 d x.x.s)) (aM ⟨V8 d x.x.s,x.x.s,(C9 d [72] x.x.s).p,x.x.d,x.x.a,x.x.f,x.x.g,x.x.h,x.x.t⟩)).2.e=0
 rotate_left
 ·rw[if_pos h7,dT h7];exact j4
 rw[if_neg (nni h7),dZ (nni h7)];repeat' first|refine Z ?_|intro
 by_cases h8:(pQ (pQ (eU d ⟨V8 d x.x.s,x.x.s,(C9 d [72] x.x.s).p,x.x.d,x.x.a,x.x.f,x.x.g,x.x.h,x.x.t⟩).1 (F6 [80] x.x.s (V8 d x.x.s)) (aM ⟨V8 d x.x.s,x.x.s,(C9 d [72] x.x.s).p,x.x.d,x.x.a,x.x.f,x.x.g,x.x.h,x.x.t⟩)).1 (I9 [78] x.x.s) (D7 110 (V8 d x.x.s+1))).2.e=0
 rotate_left
 ·rw[if_pos h8,dT h8];exact j4
 rw[if_neg (nni h8),dZ (nni h8)];exact j4⟩
instance b8E {h:Int}{id:Option Value}[hx:Ents xs d]:Ans prog GL 400 [.sl 2 xs id,x9 x,int h,int t] (DOk d/\TxB x) (qA (xO d x h t)):=⟨λhp=>by
 obtain⟨hd,hb⟩:=hp;have b1:=hb.d;have b2:=hb.s;have b3:=hb.f;have b4:=hb.g;have b5:=hb.k;have b6:DOk d/\x.f.m<=9223372036854775807:=⟨hd,hb.fm⟩;obtain⟨l1,l2,l3,l4⟩:=QN d [72] x.x.k;have h':=hx.out;subst h';refine ze func400 ntmps400 λ_ hs=>?_;repeat' first|refine Z ?_|intro
 unfold xO JQ iL nU R9;cases h2:X3 x.x
 ·rw[if_pos rfl,if_neg (show ¬ false=true by decide),dT (show (1:Int)≠0 by decide)];exact j4
 rw[if_neg (show ¬ true=false by decide),if_pos rfl,dZ (show ¬ (0:Int)≠0 by decide)];obtain⟨q3,q4,q5,q8⟩:=FH h2;repeat' first|refine Z ?_|intro
 cases h0:M0 d [72] x.x.k
 ·rw[if_pos rfl];exact j4
 rw[if_neg (show ¬ true=false by decide)];repeat' first|refine Z ?_|intro
 by_cases h1:(C9 d [72] x.x.k).s=3
 rotate_left
 ·rw[if_pos (.inl h1),dT h1];exact j4
 rw[dZ (nni h1)];repeat' first|refine Z ?_|intro
 by_cases h1':(C9 d [72] x.x.k).p=x.x.s
 rotate_left
 ·rw[if_pos (.inr h1'),dT h1'];exact j4
 rw[if_neg (show ¬ ((C9 d [72] x.x.k).s≠3\/(C9 d [72] x.x.k).p≠x.x.s) by simp[h1,h1']),dZ (nni h1')];repeat' first|refine Z ?_|intro
 cases h3:V9 x.x h t;rotate_left
 ·rw[if_pos rfl];exact j4
 rw[if_neg (show ¬ false=true by decide)];repeat' first|refine Z ?_|intro
 cases h4:(gO d (F6 [71] x.x.k x.x.q)).isSome;rotate_left
 ·rw[if_pos rfl];exact j4
 rw[if_neg (show ¬ false=true by decide)];repeat' first|refine Z ?_|intro
 cases h5:M0 d [75] (C9 d [72] x.x.k).o
 ·rw[if_pos rfl];exact j4
 rw[if_neg (show ¬ true=false by decide)];repeat' first|refine Z ?_|intro
 by_cases h6:bK d (C9 d [75] (C9 d [72] x.x.k).o).o x.t t (F6 [80] x.x.s x.x.q) (aM x.x) x.f=0
 rotate_left
 ·rw[if_pos h6,dT h6];exact j4
 rw[if_neg (nni h6),dZ (nni h6)];have p5:DOk d/\x.x.s.length<=400000000/\x.x.k.length<=400000000/\x.x.d.length<=400000000/\x.x.f.length<=400000000/\x.x.g.length<=400000000:=⟨hd,b2,b5,b1,b3,b4⟩;have q6:DOk (aI d x.x).1:=VG hd;have q7:=Hq (d:=d) (x:=x.x);unfold xB;repeat' first|refine Z ?_|intro
 by_cases h7:(aI d x.x).2=0
 ·rw[if_pos h7,if_pos h7,dZ (nni h7)];exact j4
 rw[if_neg h7,if_neg h7,dT h7];have q9:(CS (aI d x.x).2).length<=1000000000:=by
  unfold CS;exact(by decide:2<=1000000000)
 exact j4⟩
instance b8M {id:Option Value}[hx:Ents xs d]:Ans prog GL 401 [.sl 2 xs id,x9 x,int t] (DOk d/\TxB x) (qA (vS d x t)):=⟨λhp=>by
 obtain⟨hd,hb⟩:=hp;have b1:=hb.d;have b2:=hb.s;have b3:=hb.f;have b4:=hb.g;have b5:=hb.k;have b7:=hb.a;have b6:DOk d/\x.f.m<=9223372036854775807:=⟨hd,hb.fm⟩;have b8:DOk d/\x.g.a.m<=9223372036854775807/\x.g.b.m<=9223372036854775807:=⟨hd,hb.gm⟩;obtain⟨l1,l2,l3,l4⟩:=QN d [72] x.x.s;have h':=hx.out;subst h';refine ze func401 ntmps401 λ_ hs=>?_;repeat' first|refine Z ?_|intro
 unfold vS QM iL;cases h2:X3 x.x
 ·rw[if_pos (.inl rfl),if_neg (show ¬ false=true by decide),dT (show (1:Int)≠0 by decide)];exact j4
 rw[if_pos rfl,dZ (show ¬ (0:Int)≠0 by decide)];obtain⟨q3,q4,q5,q8⟩:=FH h2;have p5:DOk d/\x.x.s.length<=1000000000/\x.x.k.length<=1000000000/\x.x.d.length<=1000000000/\x.x.f.length<=1000000000/\x.x.g.length<=1000000000:=⟨hd,om,om,om,om,om⟩;have q6:DOk (jZ d x.x).1:=Am hd;repeat' first|refine Z ?_|intro
 by_cases hk:x.k=15
 ·rw[dT hk];repeat' first|refine Z ?_|intro
  cases h10:wD x.a
  ·rw[if_pos (.inr ⟨hk,rfl⟩)];exact j4
  rw[if_neg (show ¬ (true=false\/(x.k=15/\true=false)) by simp),KY,KX,if_pos hk,if_pos hk];unfold nU R9;repeat' first|refine Z ?_|intro
  cases h0:M0 d [72] x.x.s
  ·rw[if_pos rfl];exact j4
  rw[if_neg (show ¬ true=false by decide)];repeat' first|refine Z ?_|intro
  by_cases h1:(C9 d [72] x.x.s).s=3
  rotate_left
  ·rw[if_pos (.inl h1),dT h1];exact j4
  rw[dZ (nni h1)];repeat' first|refine Z ?_|intro
  by_cases h1':(C9 d [72] x.x.s).p=x.x.k
  rotate_left
  ·rw[if_pos (.inr h1'),dT h1'];exact j4
  rw[if_neg (show ¬ ((C9 d [72] x.x.s).s≠3\/(C9 d [72] x.x.s).p≠x.x.k) by simp[h1,h1']),dZ (nni h1')];repeat' first|refine Z ?_|intro
  cases hg:gO d (F6 [80] x.x.s x.x.q) with
  | none=>
   rw[if_pos (show (none:Option Bs)≠some (aM x.x) from λe=>by cases e)];exact j4
  | some v=>
  have hv:N8 d (F6 [80] x.x.s x.x.q)=v:=by
   unfold N8;rw[hg];rfl
  rw[hv];repeat' first|refine Z ?_|intro
  by_cases h3:v=aM x.x
  rotate_left
  ·rw[if_pos (show some v≠some (aM x.x) from λe=>h3 (Option.some.inj e)),dT h3];exact j4
  rw[if_neg (show ¬ some v≠some (aM x.x) by rw[h3];simp),dZ (nni h3)];repeat' first|refine Z ?_|intro
  cases h5:M0 d [75] (C9 d [72] x.x.s).o
  ·rw[if_pos rfl];exact j4
  rw[if_neg (show ¬ true=false by decide)];repeat' first|refine Z ?_|intro
  by_cases h6:bK d (C9 d [75] (C9 d [72] x.x.s).o).o x.t t (F6 [71] x.x.k x.x.q) (xP x.a) x.f=0
  rotate_left
  ·rw[if_pos h6,dT h6];exact j4
  rw[if_neg (nni h6),dZ (nni h6)];repeat' first|refine Z ?_|intro
  cases h8:decide (yP x.a≠0)
  ·rw[if_neg (λe=>by cases e.1),if_neg (show ¬ false=true by decide)];exact j4
  by_cases h9:(jZ d x.x).2=0
  rotate_left
  ·rw[if_pos ⟨rfl,h9⟩];repeat' first|refine Z ?_|intro
   rw[dT h9];exact j4
  rw[if_neg (λe=>e.2 h9),if_pos rfl];repeat' first|refine Z ?_|intro
  rw[dZ (nni h9)];exact j4
 rw[dZ hk];repeat' first|refine Z ?_|intro
 rw[if_neg (show ¬ (true=false\/(x.k=15/\wD x.a=false)) by simp[hk]),KY,KX,if_neg hk,if_neg hk];unfold nU;repeat' first|refine Z ?_|intro
 cases h0:M0 d [72] x.x.s
 ·rw[if_pos rfl];exact j4
 rw[if_neg (show ¬ true=false by decide)];repeat' first|refine Z ?_|intro
 by_cases h1:(C9 d [72] x.x.s).s=3
 rotate_left
 ·rw[if_pos (.inl h1),dT h1];exact j4
 rw[dZ (nni h1)];repeat' first|refine Z ?_|intro
 by_cases h1':(C9 d [72] x.x.s).p=x.x.k
 rotate_left
 ·rw[if_pos (.inr h1'),dT h1'];exact j4
 rw[if_neg (show ¬ ((C9 d [72] x.x.s).s≠3\/(C9 d [72] x.x.s).p≠x.x.k) by simp[h1,h1']),dZ (nni h1')];repeat' first|refine Z ?_|intro
 cases hg:gO d (F6 [80] x.x.s x.x.q) with
 | none=>
  rw[if_pos (show (none:Option Bs)≠some (aM x.x) from λe=>by cases e)];exact j4
 | some v=>
 have hv:N8 d (F6 [80] x.x.s x.x.q)=v:=by
  unfold N8;rw[hg];rfl
 rw[hv];repeat' first|refine Z ?_|intro
 by_cases h3:v=aM x.x
 rotate_left
 ·rw[if_pos (show some v≠some (aM x.x) from λe=>h3 (Option.some.inj e)),dT h3];exact j4
 rw[if_neg (show ¬ some v≠some (aM x.x) by rw[h3];simp),dZ (nni h3)];repeat' first|refine Z ?_|intro
 cases h5:M0 d [75] (C9 d [72] x.x.s).o
 ·rw[if_pos rfl];exact j4
 rw[if_neg (show ¬ true=false by decide)];repeat' first|refine Z ?_|intro
 by_cases h6:lL d (C9 d [75] (C9 d [72] x.x.s).o).o x.t t (F6 [71] x.x.k x.x.q) x.g=0
 rotate_left
 ·have h6':lL d (R9 d x.x.s) x.t t (F6 [71] x.x.k x.x.q) x.g≠0:=h6;rw[Zw h6',if_pos h6',dT h6];exact j4
 rw[dZ (nni h6)];repeat' first|refine Z ?_|intro
 cases h8:V9 x.x (mV d (C9 d [75] (C9 d [72] x.x.s).o).o x.t t (F6 [71] x.x.k x.x.q) x.g).h (mV d (C9 d [75] (C9 d [72] x.x.s).o).o x.t t (F6 [71] x.x.k x.x.q) x.g).t
 ·rw[Zx h6 h8,if_pos (show (21:Int)≠0 by decide)];exact j4
 rw[Zv h6 h8,if_neg (show ¬ (0:Int)≠0 by decide)];repeat' first|refine Z ?_|intro
 by_cases h9:(jZ d x.x).2=0
 rotate_left
 ·rw[if_pos ⟨trivial,h9⟩];repeat' first|refine Z ?_|intro
  rw[dT h9];exact j4
 rw[if_neg (λe=>e.2 h9),if_pos trivial];repeat' first|refine Z ?_|intro
 rw[dZ (nni h9)];exact j4⟩
end
end Go.Proofs.Z

namespace Go.Proofs.Z
open Go Go.RowKit Tw Av
attribute [local irreducible] Q4 M0 V9 DF uJ QZ RA OV OW xF xO vS
attribute [local irreducible] QR
end Go.Proofs.Z

namespace Go.Proofs.Z
open Go Go.RowKit Tw Av Go.Proofs.Tryz
section
variable {x:TxX}{h:Int}{d:List Ent}{r:Rep}
attribute [local irreducible] Q4 M0 V9 DF uJ QZ RA OV OW xF xO vS
theorem b8z {t:Int}:Ans prog GL 345 [.sl 2 (d.map D5) none,x9 x,int h,int t] (DOk d/\TxB x/\K19 x.k) (qA (QR d x h t)):=⟨λhp=>by
 obtain⟨hd,hb,hk⟩:=hp;have hq:DOk d/\TxB x:=⟨hd,hb⟩;refine ze func345 ntmps345 λ_ hs=>?_;repeat' first|refine Z ?_|intro
 unfold QR;rcases hk with h1|h1|h1|h1|h1|h1
 all_goals
  repeat first|rw[if_pos (show x.k=13 from h1)]|rw[if_pos (show x.k=14 from h1)]|rw[if_neg (show ¬ x.k=13 by omega)]|rw[if_pos (show x.k=1\/x.k=2 by omega)]|rw[if_neg (show ¬ (x.k=1\/x.k=2) by omega)]|rw[if_pos (show x.k=3\/x.k=4 by omega)]|rw[if_neg (show ¬ (x.k=3\/x.k=4) by omega)]|rw[if_neg (show ¬ (x.k=5\/x.k=6) by omega)]|rw[if_neg (show ¬ (x.k=9\/x.k=10) by omega)]|rw[if_neg (show ¬ (x.k=7\/x.k=8) by omega)]|rw[if_neg (show ¬ (x.k=11\/x.k=12) by omega)]
  exact j4⟩
attribute [local irreducible] QR
instance b6c {k:Nat}:ImpT (.lit (.slice none 0 0)) (.sl k [] (some (.slice none 0 0))):=⟨ImpC.nilT⟩
theorem a4J {xs:List AV}:ImpC (.agg 3 [.sl 2 xs none,.lit (.slice none 0 0),.lit (.slice none 0 0)]) (.agg 3 [.sl 2 xs none,.sl 3 [] (some (.slice none 0 0)),.sl 15 [] (some (.slice none 0 0))]):=(inferInstance:ImpT _ _).imp
attribute [local irreducible] H9 K6 aG I6 C9
theorem a6P (e:x.k=13):pE d h x r=⟨h,x.k,⟨r.q,x.x.s,(C9 d [72] x.x.s).p,x.x.d,x.x.a,x.x.f,x.x.g,x.x.h,x.x.t⟩,[]⟩:=by
 unfold pE;rw[if_pos e,if_neg (show ¬ x.k=14 by omega),if_neg (show ¬ x.k=15 by omega)]
theorem a6O (e:x.k=14):pE d h x r=⟨h,x.k,x.x,r.a⟩:=by
 unfold pE;rw[if_neg (show ¬ x.k=13 by omega),if_pos e]
theorem a6N (e:x.k=15):pE d h x r=⟨h,x.k,x.x,x.a⟩:=by
 unfold pE;rw[if_neg (show ¬ x.k=13 by omega),if_neg (show ¬ x.k=14 by omega),if_pos e]
theorem a6M (e:¬ x.k=13/\¬ x.k=14/\¬ x.k=15):pE d h x r=⟨h,x.k,x.x,[]⟩:=by
 unfold pE;rw[if_neg e.1,if_neg e.2.1,if_neg e.2.2]
set_option maxRecDepth 100000 in
theorem a5V {K:Int->Prop}(hDo:∀ {d:List Ent} {h t:Int} {x:TxX},Ans prog GL 261 [.sl 2 (d.map D5) none,x9 x,int h,int t] (DOk d/\TxB x/\K x.k) (.tup [U4 (H9 d x h t).1,P5 (H9 d x h t).2]))
  {d:List Ent} {l:List Bs} {h t:Int} {xs ys:List AV} {id id2:Option Value} [hx:Ents xs d] [hy:Strs ys l]:Ans prog GL 160 [.sl 2 xs id2,.agg 3 [int h,int t,.sl 1 ys id]] (DOk d/\l.length<=1000000/\∀ s∈l,s.length<=1000000000/\(aG (I6 s)=0->K (K6 (I6 s)).k))
   (.agg 3 [U4 (M7 d ⟨h,t,l⟩).1,.sl 3 ((M7 d ⟨h,t,l⟩).2.1.map P5) none,.sl 15 ((M7 d ⟨h,t,l⟩).2.2.map Q0) none]):=⟨λhp=>by
 obtain⟨hd,hl,hk⟩:=hp;have h':=hx.out;subst h';have h':=hy.out;subst h';have hm:(l.map str).length=l.length:=llm _
 haveI hDoI:∀ {d:List Ent} {h t:Int} {x:TxX},Ans prog GL 261 [.sl 2 (d.map D5) none,x9 x,int h,int t] (DOk d/\TxB x/\K x.k) (.tup [U4 (H9 d x h t).1,P5 (H9 d x h t).2]):=hDo
 refine ze func160 ntmps160 λ_ hs=>?_;refine Y4 0 Imp.sl ?_;repeat' first|refine Z ?_|intro
 rename_i g3 g4 g5;refine dY (g:=g5) a4J ?_;refine P6 (λok w h=>h.full 106 15 none 0) ?_;refine P6 (λok w h=>h.full 67 3 none 0) ?_;refine y9 (α:=Nat × Value × Value) (λz=>[(3,ptr g3),(4,ptr g4),(5,ptr g5),(6,int z.1)])
  (λz=>[.tail 67 3 z.2.1,.tail 106 15 z.2.2,.var g5 240 (.agg 3 [U4 (V6 h t (d,[],[]) (l.take z.1)).1,.sl 3 ((V6 h t (d,[],[]) (l.take z.1)).2.1.map P5) (some z.2.1),.sl 15 ((V6 h t (d,[],[]) (l.take z.1)).2.2.map Q0) (some z.2.2)]),.var g4 240 (.agg 3 [.lit (.slice none 0 0),.lit (.slice none 0 0),.lit (.slice none 0 0)]),.var g3 129 (.agg 3 [int h,int t,.sl 1 (l.map str) id])])
  (λz=>z.1<=l.length) (λz=>l.length-z.1) (0,.slice none 0 0,.slice none 0 0) zc ?_ (Nat.zero_le _) ?_
 ·exact List.Sublist.refl _
 rintro⟨i,v7,v8⟩ hi;dsimp only at hi ⊢;repeat' first|refine Z ?_|intro
 refine w9 (λh1=>?_) (λh1=>?_)
 ·have hil:i<l.length:=om
  have hq:=Ff (h:=h) (t:=t) (q:=(d,[],[])) hil;have hdq:DOk (V6 h t (d,[],[]) (l.take i)).1:=NT hd;have hlq:=ET (h:=h) (t:=t) (l:=l.take i) (q:=(d,[],[]));have hls:l[i].length<=1000000000:=(hk _ (List.getElem_mem hil)).1;have hkk:=(hk _ (List.getElem_mem hil)).2;generalize V6 h t (d,[],[]) (l.take i)=q at *;have hl1:q.2.1.length<=1000000:=by
   have:=hlq.1;simp only[List.length_take,List.length_nil] at this;omega
  have hl2:q.2.2.length<=1000000:=by
   have:=hlq.2;simp only[List.length_take,List.length_nil] at this;omega
  have hm1:(q.2.1.map P5).length=q.2.1.length:=llm _;have hm2:(q.2.2.map Q0).length=q.2.2.length:=llm _;repeat' first|refine Z ?_|intro
  by_cases hE:aG (I6 l[i])=0
  rotate_left
  ·have hq':=hq.trans (Fe hE);repeat' first|refine Z ?_|intro
   refine H7 (λv'=>?_);repeat' first|refine Z ?_|intro
   refine o9 (i+1,v',v8) zc ?_ hil (by dsimp only;omega);dsimp only;rw[hq',List.map_append];exact u7
  rw[hE];have hx3:DOk q.1/\TxB (K6 (I6 l[i]))/\K (K6 (I6 l[i])).k:=⟨hdq,Fu _,hkk hE⟩;have hdo:DOk (H9 q.1 (K6 (I6 l[i])) h t).1:=YP hdq;have hdo2:DOk (H9 q.1 (K6 (I6 l[i])) h t).1/\([72]:Bs).length<=1000000000:=⟨hdo,dc⟩;repeat' first|refine Z ?_|intro
  refine H7 (λv'=>?_);repeat' first|refine Z ?_|intro
  by_cases h0:(H9 q.1 (K6 (I6 l[i])) h t).2.e=0
  rotate_left
  ·have hq':=hq.trans (NR hE (λhh=>h0 hh.1));repeat' first|refine Z ?_|intro
   refine o9 (i+1,v',v8) zc ?_ hil (by dsimp only;omega);dsimp only;rw[hq',List.map_append];exact u7
  by_cases h1:13<=(K6 (I6 l[i])).k
  rotate_left
  ·have hq':=hq.trans (NR hE (λhh=>h1 hh.2));repeat' first|refine Z ?_|intro
   refine o9 (i+1,v',v8) zc ?_ hil (by dsimp only;omega);dsimp only;rw[hq',List.map_append];exact u7
  have hq':=hq.trans (Fb hE h0 h1);by_cases h13:(K6 (I6 l[i])).k=13
  ·rw[a6P h13] at hq';repeat' first|refine Z ?_|intro
   refine H7 (λv''=>?_);repeat' first|refine Z ?_|intro
   refine o9 (i+1,v',v'') zc ?_ hil (by dsimp only;omega);dsimp only;rw[hq',List.map_append,List.map_append];exact u7
  by_cases h14:(K6 (I6 l[i])).k=14
  ·rw[a6O h14] at hq';repeat' first|refine Z ?_|intro
   refine H7 (λv''=>?_);repeat' first|refine Z ?_|intro
   refine o9 (i+1,v',v'') zc ?_ hil (by dsimp only;omega);dsimp only;rw[hq',List.map_append,List.map_append];exact u7
  by_cases h15:(K6 (I6 l[i])).k=15
  ·rw[a6N h15] at hq';repeat' first|refine Z ?_|intro
   refine H7 (λv''=>?_);repeat' first|refine Z ?_|intro
   refine o9 (i+1,v',v'') zc ?_ hil (by dsimp only;omega);dsimp only;rw[hq',List.map_append,List.map_append];exact u7
  rw[a6M ⟨h13,h14,h15⟩] at hq';repeat' first|refine Z ?_|intro
  refine H7 (λv''=>?_);repeat' first|refine Z ?_|intro
  refine o9 (i+1,v',v'') zc ?_ hil (by dsimp only;omega);dsimp only;rw[hq',List.map_append,List.map_append];exact u7
 have hi':i=l.length:=om
 subst hi';rw[List.take_length];repeat' first|refine Z ?_|intro
 refine F9 ?_;show Imp (.agg 3 [U4 (V6 h t (d,[],[]) l).1,.sl 3 ((V6 h t (d,[],[]) l).2.1.map P5) (some v7),.sl 15 ((V6 h t (d,[],[]) l).2.2.map Q0) (some v8)]) (.agg 3 [U4 (V6 h t (d,[],[]) l).1,.sl 3 ((V6 h t (d,[],[]) l).2.1.map P5) none,.sl 15 ((V6 h t (d,[],[]) l).2.2.map Q0) none]);exact ImpR.imp⟩
end
end Go.Proofs.Z

namespace Go.Proofs.Z
open Go Go.RowKit Tw Av
theorem uS (c:Int)(s:Bs):(r9 c s).length<=s.length+4:=by
 simp[r9,uR,List.length_take];omega
theorem yX (c n:Int):(D7 c n).length<=12:=by
 have:=CY 8 n.toNat;have:=uS c (aD 8 n.toNat);show (uR _ (aD 8 n.toNat)).length<=12;unfold r9 at this;omega
def BO (l:List Bs):Nat:=(l.map List.length).sum
theorem Qj (c:Int):∀ l:List Bs,(l.flatMap (r9 c)).length<=BO l+4*l.length
 | []=>by simp[BO]
 | s::l=>by
  have h1:=Qj c l;have h2:=uS c s;unfold BO at h1 ⊢;rw[List.flatMap_cons,lla,List.map_cons,List.sum_cons,List.length_cons];omega
theorem Ux (b:BlkX):(M5 b).length<=BO b.x+4*b.x.length+28:=by
 have h1:=yX 104 b.h;have h2:=yX 116 b.t;have h3:=uS 120 (b.x.flatMap (r9 120));have h4:=Qj 120 b.x;show (D7 104 b.h++D7 116 b.t++r9 120 (b.x.flatMap (r9 120))).length<=_;rw[lla,lla];omega
theorem TR {n:Nat}:∀ {l:List Bs},(∀ s∈l,s.length<=n)->BO l<=n*l.length
 | [],_=>by simp[BO]
 | s::l,h=>by
  have h1:=TR (l:=l) (λt ht=>h t (by simp[ht]));have h2:=h s sm;unfold BO at h1 ⊢;rw[List.map_cons,List.sum_cons,List.length_cons,Nat.mul_add];omega
theorem Aj {b:BlkX}(h:BkG b):(M5 b).length<=200000:=by
 have h1:=Ux b;have h2:=TR h.s;have h3:=h.l;omega
theorem a1I (s:Bs):(D9 s).length<=s.length+16:=by
 unfold D9;rw[lla];have:=uS 82 s;have:=yX 83 (iA (r9 82 s));omega
def aV (bs:List BlkX):Bs:=M4 (bs.map M5)
def PM (bs:List BlkX):MkX:=⟨bs.length,(aV bs).length,bs.length⟩
def F3 (bs:List BlkX):SlX:=⟨PM bs,aV bs,false⟩
theorem KI (bs:List BlkX)(b:BlkX):aV (bs++[b])=aV bs++D9 (M5 b):=by
 unfold aV M4;rw[List.map_append,List.flatMap_append];simp
theorem WC (bs:List BlkX)(b:BlkX):CB (F3 bs) (M5 b)=F3 (bs++[b]):=by
 unfold CB F3 PM I5;rw[KI];simp
structure Ro (x:DvX)(bs:List BlkX):Prop where
 dv:DvOk x
 on:x.on=true
 ws:x.ws=[]
 n:3<=x.n
 fit:DFits (J4 x) (aV bs) (PM bs)
 rm:((aV bs).length:Int)<=M3 x.n
 bg:BsG bs
theorem a2q:M8 lI=uO:=by kernel_rfl
theorem Gd {n:Int}(h:3<=n)(h2:n<=4096):Ro (U0 n) []:=by
 have hz:∀ a,J4 (U0 n) a=uO:=λa=>rfl;refine⟨⟨⟨by show 0<=n;omega,h2⟩,?_,?_,?_,by show (0:Int)<=0/\(0:Int)<=1000000;decide⟩,rfl,rfl,h,⟨λa=>by rw[hz];exact Ca,?_,⟨by show (0:Int)<=0/\(0:Int)<200;decide,?_,?_,0,?_,dc,.inr rfl⟩⟩,?_,?_⟩
 ·exact List.Pairwise.nil
 ·simp[U0]
 ·simp[U0]
 ·intro j hj;simp[aV,M4] at hj
 ·exact⟨dc,dc,dc⟩
 ·rw[hz];exact a2q.symm
 ·rw[hz];kernel_rfl
 ·show (0:Int)<=(n-2)*64;omega
 exact⟨sm,sm,λi h=>by simp at h⟩
theorem Gc {x:DvX}{bs:List BlkX}(h:Ro x bs):nM x=0/\iF x=F3 bs/\KC x=bs.map M5:=
 a2L h.dv h.on h.ws h.fit rfl (by show ((bs.length:Nat):Int)=((bs.map M5).length:Nat);rw[llm]) h.rm (by have:=h.n;omega)
  (λs hs=>by
   obtain⟨b,hb,rfl⟩:=List.mem_map.1 hs;have:=Aj (h.bg.g b hb).1;omega)
theorem a1v {x:DvX}{bs:List BlkX}(h:Ro x bs)(he:bs.length<190):LogOk x (F3 bs):=
 ⟨h.dv,h.on,h.ws,h.fit,rfl,h.rm,h.n,rfl,by show ((bs.length:Nat):Int)<190;omega,by show (0:Int)<=((bs.length:Nat):Int)/\((bs.length:Nat):Int)<=1000;omega⟩
section
variable {nm ky:Bs} {d:List Ent} {bs:List BlkX} {ws:List Bs} {x:DvX}
def y8 (nm ky:Bs)(d:List Ent)(bs:List BlkX)(ws:List Bs)(dd:Bool):ChX:={ opC nm ky d bs with ws:=ws,dd:=dd }
theorem ZU (hd:DOk d)(hb:BsG bs):y8 nm ky d bs [] false=opC nm ky d bs:=by
 have h:=FD (nm:=nm) (ky:=ky) hd hb bs.length (Nat.le_refl _);rw[List.take_length] at h;unfold y8;rw[<- h.ws,<- h.dd]
theorem vJ (hd:DOk d)(hb:BsG bs):OpI nm ky bs (opC nm ky d bs):=by
 have h:=FD (nm:=nm) (ky:=ky) hd hb bs.length (Nat.le_refl _)
 rwa [List.take_length] at h
structure WsG (ws:List Bs):Prop where
 l:ws.length<=16
 t:∀ s∈ws,Tx20 s
theorem TJ (hb:BsG bs):0<=O4 bs/\O4 bs<=1099511627776:=by
 unfold O4;cases h:bs.getLast? with
 | none=>simp
 | some b=>exact(hb.g b (List.mem_of_getLast? h)).1.t
def O5 (bs:List BlkX)(ws:List Bs)(t:Int):BlkX:=⟨bs.length+1,max (min t 1099511627776) (O4 bs),ws⟩
theorem Ki (hb:BsG bs)(hl:bs.length<190)(hw:WsG ws)(t:Int):BsG (bs++[O5 bs ws t]):=by
 have ht:=TJ hb;refine⟨by rw[lla,List.length_singleton];omega,?_,?_⟩
 ·intro b hm;rcases List.mem_append.1 hm with hm|hm
  ·exact hb.g b hm
  obtain rfl:=List.mem_singleton.1 hm;refine⟨⟨?_,?_,hw.l,λs hs=>(hw.t s hs).1⟩,hw.t⟩
  ·show (1:Int)<=bs.length+1/\((bs.length:Nat):Int)+1<=1099511627776;omega
  show 0<=max (min t 1099511627776) (O4 bs)/\max (min t 1099511627776) (O4 bs)<=1099511627776;omega
 intro i hi;rw[lla,List.length_singleton] at hi;by_cases h:i<bs.length
 ·rw[List.getElem_append_left h,List.take_append_of_le_length om];exact hb.h i h
 obtain rfl:i=bs.length:=by omega
 rw[List.getElem_append_right (Nat.le_refl _),List.take_left];simp only[Nat.sub_self,List.getElem_singleton];refine⟨rfl,?_⟩;show O4 bs<=max (min t 1099511627776) (O4 bs);omega
theorem Tf (hd:DOk d)(h:Ro x bs)(hl:bs.length<190)(hw:WsG ws):ChOk x (F3 bs) (y8 nm ky d bs ws false):=by
 have o:=vJ (nm:=nm) (ky:=ky) hd h.bg;have h1:=o.hs;have h2:=o.ms;have h3:=o.ev;have h4:=h.dv.n;have h5:=h.rm;have h6:M3 x.n=(x.n-2)*64:=rfl;refine⟨h.dv,by rw[h.ws];decide,?_,?_,?_,rfl,?_,?_,o.st,hw.l,hw.t,?_⟩
 ·show (0:Int)<=((bs.length:Nat):Int)/\((bs.length:Nat):Int)<=1000000;omega
 ·show (0:Int)<=(((aV bs).length:Nat):Int)/\(((aV bs).length:Nat):Int)<=1000000;omega
 ·show (0:Int)<=((bs.length:Nat):Int)/\((bs.length:Nat):Int)<=1000000;omega
 ·show (opC nm ky d bs).hs.length<(opC nm ky d bs).ms.length/\(opC nm ky d bs).ms.length<=100000;omega
 ·show (opC nm ky d bs).ev.length<=100000;omega
 show 0<=X7 (opC nm ky d bs)/\X7 (opC nm ky d bs)<=1099511627776;rw[o.tm];exact TJ h.bg
theorem a7z (hd:DOk d)(hb:BsG bs){t:Int}:iK (y8 nm ky d bs ws false) t=O5 bs ws t:=by
 have o:=vJ (nm:=nm) (ky:=ky) hd hb;unfold iK O5;have h1:(y8 nm ky d bs ws false).hs.length=bs.length:=o.hs;have h2:X7 (y8 nm ky d bs ws false)=O4 bs:=o.tm;rw[h1,h2];rfl
theorem a7d (hd:DOk d)(hb:BsG bs){b:BlkX}:dN { y8 nm ky d bs ws false with ws:=[] } b=y8 nm ky d (bs++[b]) [] false:=by
 have o:=vJ (nm:=nm) (ky:=ky) hd hb;have e:({ y8 nm ky d bs ws false with ws:=[] }:ChX)=opC nm ky d bs:=ZU hd hb;rw[e,<- FE];unfold y8;have hw:(opC nm ky d (bs++[b])).ws=[]:=by rw[FE];exact o.ws
 have hdd:(opC nm ky d (bs++[b])).dd=false:=by rw[FE];exact o.dd
 rw[<- hw,<- hdd]
inductive CuS (nm ky:Bs)(d:List Ent)(x:DvX)(bs:List BlkX)(ws:List Bs)(t:Int):DvX->SlX->ChX->Int->List Rep->Prop where
 | full (h:M3 x.n-(aV bs).length<(D9 (M5 (O5 bs ws t))).length):CuS nm ky d x bs ws t x (F3 bs) (y8 nm ky d bs ws false) 15 []
 | lost (y:DvX) (hy:y.n=x.n) (ha:x.ar=true) (h:Old y (F3 bs) (F3 (bs++[O5 bs ws t]))) (hr:((aV (bs++[O5 bs ws t])).length:Int)<=M3 x.n):CuS nm ky d x bs ws t y { F3 bs with br:=true } (y8 nm ky d bs ws true) 14 []
 | yes (y:DvX) (hy:y.n=x.n) (ha:y.ar=x.ar) (h:Ro y (bs++[O5 bs ws t])):CuS nm ky d x bs ws t y (F3 (bs++[O5 bs ws t])) (y8 nm ky d (bs++[O5 bs ws t]) [] false) 0 (M7 (j5 (opC nm ky d bs)) (O5 bs ws t)).2.1
theorem a7x (hd:DOk d)(h:Ro x bs)(hl:bs.length<189)(hw:WsG ws)(t:Int) :
  CuS nm ky d x bs ws t (Q3 x (F3 bs) (y8 nm ky d bs ws false) t).1 (Q3 x (F3 bs) (y8 nm ky d bs ws false) t).2.1 (AU x (F3 bs) (y8 nm ky d bs ws false) t) (Q3 x (F3 bs) (y8 nm ky d bs ws false) t).2.2 (AR x (F3 bs) (y8 nm ky d bs ws false) t):=by
 have hg:=Ki h.bg om hw t;have hbl:=Aj (hg.g (O5 bs ws t) sm).1;have hbe:=a7z (nm:=nm) (ky:=ky) (ws:=ws) hd h.bg (t:=t);unfold AU AR;have hq:Q3 x (F3 bs) (y8 nm ky d bs ws false) t=lN x (F3 bs) (M5 (O5 bs ws t)):=by unfold Q3;rw[hbe]
 rw[hq,hbe];have hs:=a7H (r:=M5 (O5 bs ws t)) (a1v h om);have hlen:((aV (bs++[O5 bs ws t])).length:Int)=(aV bs).length+(D9 (M5 (O5 bs ws t))).length:=by
  rw[KI,lla];omega
 have hst:j5 (y8 nm ky d bs ws false)=j5 (opC nm ky d bs):=rfl;have hroom:(lN x (F3 bs) (M5 (O5 bs ws t))).2.2≠15->¬ M3 x.n-(aV bs).length<((D9 (M5 (O5 bs ws t))).length:Int):=by
  intro h1 h2;apply h1;unfold lN;rw[if_neg (show ¬ (F3 bs).br=true from by show ¬ (false=true);decide),if_neg om,if_pos (show M3 x.n-(F3 bs).m.b<((D9 (M5 (O5 bs ws t))).length:Int) from h2)]
 generalize hz:lN x (F3 bs) (M5 (O5 bs ws t))=z at *;rcases hs with⟨e,he⟩|⟨y,hy,ha,ho⟩|⟨y,hy,ha,hr,hL,hf,hk,hn,hw',hm⟩
 ·rcases he with⟨_,he⟩|⟨rfl,he⟩
  ·omega
  rw[if_neg (show ¬ ((15:Int)=0) by decide),if_neg (show ¬ ((15:Int)=0) by decide)];exact .full he
 ·rw[if_neg (show ¬ ((14:Int)=0) by decide),if_neg (show ¬ ((14:Int)=0) by decide)];rw[WC] at ho;have:=hroom (show (14:Int)≠15 by decide);exact .lost y hy ha ho om
 have hst2:=hroom (show (0:Int)≠15 by decide);rw[if_pos rfl,if_pos rfl,WC,a7d hd h.bg,hst];have e:=congrArg SlX.m (WC bs (O5 bs ws t));refine .yes y hy ha ⟨hk,hn,hw',by rw[hy];exact h.n,?_,by rw[hy];omega,hg⟩;rw[KI,<- show I5 (F3 bs) (M5 (O5 bs ws t))=PM (bs++[O5 bs ws t]) from e];exact hf
end
end Go.Proofs.Z

namespace Go.Proofs.Z
open Go Go.RowKit Tw Av Go.Proofs.Tryz
section
variable {x:TxX}{h t:Int}{d:List Ent}
def FC (d:List Ent)(x:TxX)(h t:Int):Out18:=if x.k=3\/x.k=4 then uJ d x t else if x.k=13 then xF d x.x else if x.k=14 then xO d x h t else vS d x t
attribute [local irreducible] Q4 M0 V9 DF uJ QZ RA OV OW xF xO vS
instance (priority:=high) b8y {xs:List AV}{id:Option Value}[hx:Ents xs d]:Ans prog GL 345 [.sl 2 xs id,x9 x,int h,int t] ((DOk d/\TxB x)/\K20 x.k) (qA (FC d x h t)):=⟨λhp=>by
 obtain⟨hq,hk⟩:=hp;refine ze func345 ntmps345 λ_ hs=>?_;unfold FC;rcases hk with h|h|h|h|h|h
 ·rw[if_pos (.inl h)];exact j4
 ·rw[if_pos (.inr h)];exact j4
 ·rw[if_neg (show ¬ (x.k=3\/x.k=4) by omega),if_pos h];exact j4
 ·rw[if_neg (show ¬ (x.k=3\/x.k=4) by omega),if_neg (show ¬ x.k=13 by omega),if_pos h];exact j4
 ·rw[if_neg (show ¬ (x.k=3\/x.k=4) by omega),if_neg (show ¬ x.k=13 by omega),if_neg (show ¬ x.k=14 by omega)];exact j4
 rw[if_neg (show ¬ (x.k=3\/x.k=4) by omega),if_neg (show ¬ x.k=13 by omega),if_neg (show ¬ x.k=14 by omega)];exact j4⟩
theorem a6C (hk:K20 x.k):nS d (FC d x h t)=H9 d x h t:=by
 unfold FC;rcases hk with e|e|e|e|e|e
 ·rw[if_pos (.inl e),a6D e,QS e]
 ·rw[if_pos (.inr e),a6y e,YQ e]
 ·rw[if_neg (show ¬ (x.k=3\/x.k=4) by omega),if_pos e,a6A,YU e]
 ·rw[if_neg (show ¬ (x.k=3\/x.k=4) by omega),if_neg (show ¬ x.k=13 by omega),if_pos e,a6B,YT e]
 ·rw[if_neg (show ¬ (x.k=3\/x.k=4) by omega),if_neg (show ¬ x.k=13 by omega),if_neg (show ¬ x.k=14 by omega),a6E e,YS e]
 rw[if_neg (show ¬ (x.k=3\/x.k=4) by omega),if_neg (show ¬ x.k=13 by omega),if_neg (show ¬ x.k=14 by omega),a6z e,YR e]
attribute [local irreducible] H9 FC
instance (priority:=high) a5W {xs:List AV}{id:Option Value}[hx:Ents xs d]:Ans prog GL 261 [.sl 2 xs id,x9 x,int h,int t] ((DOk d/\TxB x)/\K20 x.k) (.tup [U4 (H9 d x h t).1,P5 (H9 d x h t).2]):=⟨λhp=>by
 have h':=hx.out;subst h';refine ze func261 ntmps261 λ_ hs=>?_;refine Y4 0 Imp.sl ?_;repeat' first|refine Z ?_|intro
 rw[<- a6C hp.2];unfold nS;by_cases h:(FC d x h t).2.e=0
 ·rw[if_pos h,dZ (nni h)];exact j4
 rw[if_neg h,dT h];exact j4⟩
end
end Go.Proofs.Z

namespace Go.Proofs.Z
open Go Go.RowKit Tw Av
attribute [local irreducible] H9
end Go.Proofs.Z
