/- . -/
import Derived.Test.YtjhnaegpchadiaaGreatDoorN37
set_option maxHeartbeats 64000000
namespace Go.Proofs.YtjhnaegpchadiaaGreatDoor
open Go Go.RowKit Tw Av
def IU (d:List Ent)(x:Pkt):Out18:=pQ (mW d (goes d x)).1 (aC [80] x.s (goes d x).q) (nR (goes d x))
def zF (d:List Ent)(x:Pkt):Out18:=pQ (IU d x).1 (H6 [78] x.s) (p9 110 ((goes d x).q+1))
def DU (d:List Ent)(x:Pkt):Out18:=
 if P7 d [72] x.s=false then fQ 12 else if (H9 d [72] x.s).s≠3 then fQ 13 else if dO (goes d x)=false then fQ 1
 else if wT d x.s=false\/M8 d (iB d x.s)=false then fQ 12
 else if kI (goes d x) (dF (P8 d (iB d x.s)).l).h (dF (P8 d (iB d x.s)).l).t=true then fQ 21
 else if (mW d (goes d x)).2≠0 then fQ (mW d (goes d x)).2
 else if (IU d x).2.e≠0 then IU d x else if (zF d x).2.e≠0 then zF d x else ((zF d x).1,⟨(zF d x).2.e,(goes d x).q,(zF d x).2.a⟩)
def JV (d:List Ent)(x:TxX):Out18:=pQ (if (cO d x.x).2=0 then (cO d x.x).1 else d) (aC [71] x.x.k x.x.q) (EI (GQ d x.x))
def EH (d:List Ent)(x:TxX)(h t:Int):Out18:=
 if dO x.x=false then fQ 1 else if P7 d [72] x.x.k=false then fQ 12 else if (H9 d [72] x.x.k).s≠3\/(H9 d [72] x.x.k).p≠x.x.s then fQ 13
 else if kI x.x h t=true then fQ 21 else if (gO d (aC [71] x.x.k x.x.q)).isSome=true then fQ 20 else if wT d x.x.k=false then fQ 12
 else if dB d (iB d x.x.k) x.t t (aC [80] x.x.s x.x.q) (nR x.x) x.f≠0 then fQ (dB d (iB d x.x.k) x.t t (aC [80] x.x.s x.x.q) (nR x.x) x.f)
 else ((JV d x).1,⟨(JV d x).2.e,(JV d x).2.q,GQ d x.x⟩)
def a2o (d:List Ent)(x:Pkt)(b:Bool)(e:Int):Out18:=
 if P7 d [72] x.s=false then fQ 12 else if (H9 d [72] x.s).s≠3\/(H9 d [72] x.s).p≠x.k then fQ 13
 else if gO d (aC [80] x.s x.q)≠some (nR x) then fQ 12 else if wT d x.s=false then fQ 12
 else if e≠0 then fQ e else if b=true/\(wU d x).2≠0 then fQ (wU d x).2
 else (lY (if b=true then (wU d x).1 else d) (aC [80] x.s x.q),lN)
def edB (x:TxX):Bool:=if x.k=15 then decide (Nz x.a≠0) else true
def edE (d:List Ent)(x:TxX)(t:Int):Int:=if x.k=15 then dB d (iB d x.x.s) x.t t (aC [71] x.x.k x.x.q) (EI x.a) x.f else WY d x t
def TI (d:List Ent)(x:TxX)(t:Int):Out18:=if dO x.x=false\/(x.k=15/\Oa x.a=false) then fQ 1 else a2o d x.x (edB x) (edE d x t)
def LV (d:List Ent)(x:TxX)(h t:Int):Out18:=
 if x.k=1\/x.k=2 then BI d x else if x.k=3\/x.k=4 then mF d x t else if x.k=5\/x.k=6 then UW d x (decide (x.k=6)) t else if x.k=9\/x.k=10 then UX d x (decide (x.k=10)) t
 else if x.k=7\/x.k=8 then QI d x (decide (x.k=7)) t else if x.k=11\/x.k=12 then QJ d x (decide (x.k=11)) t else if x.k=13 then DU d x.x else if x.k=14 then EH d x h t else if x.k=15\/x.k=16 then TI d x t else fQ 1
end Go.Proofs.YtjhnaegpchadiaaGreatDoor

namespace Go.Proofs.YtjhnaegpchadiaaGreatDoor
open Go Go.RowKit Tw Av Go.Proofs.Tryz
attribute [local irreducible] M8 P7 kI
theorem Vu {d:List Ent}{k v:Bs}(h:DOk d):DOk (pQ d k v).1:=by
 unfold pQ;split
 ·exact wD h
 ·exact .nil
instance b3y {d:List Ent}{x:TxX}{xs:List AV}{id:Option Value}[hx:Ents xs d]:Ans prog GL 372 [.sl 2 xs id,N7 x] (DOk d/\TxB x) (qA (DU d x.x)):=⟨fun hp=>by
 obtain⟨hd,hb⟩:=hp;have b1:=hb.d;have b2:=hb.s;have b3:=hb.f;have b4:=hb.g;obtain⟨l1,l2,l3,l4⟩:=Ia d [72] x.x.s;refine qF func372 ntmps372 fun _ hs=>?_;repeat' first|refine Zz ?_|intro _
 unfold DU zF IU goes wT iB;dsimp only;cases h0:P7 d [72] x.x.s
 ·rw[if_pos rfl];repeat' first|refine Zz ?_|intro _
  exact d9 rfl
 rw[if_neg (show ¬ true=false by decide)];repeat' first|refine Zz ?_|intro _
 by_cases h1:(H9 d [72] x.x.s).s=3
 rotate_left
 ·rw[if_pos h1,dT h1];repeat' first|refine Zz ?_|intro _
  exact d9 rfl
 rw[if_neg (nni h1),dZ (nni h1)];repeat' first|refine Zz ?_|intro _
 unfold nS;cases h2:dO ⟨dY d x.x.s,x.x.s,(H9 d [72] x.x.s).p,x.x.d,x.x.a,x.x.f,x.x.g,x.x.h,x.x.t⟩
 ·rw[if_pos rfl,if_neg (show ¬ false=true by decide),dT (show (1:Int)≠0 by decide)];repeat' first|refine Zz ?_|intro _
  exact d9 rfl
 rw[if_neg (show ¬ true=false by decide),if_pos rfl,dZ (show ¬ (0:Int)≠0 by decide)];repeat' first|refine Zz ?_|intro _
 cases h3:P7 d [75] (H9 d [72] x.x.s).o
 ·rw[if_pos (.inl rfl)];repeat' first|refine Zz ?_|intro _
  exact d9 rfl
 repeat' first|refine Zz ?_|intro _
 cases h4:M8 d (H9 d [75] (H9 d [72] x.x.s).o).o
 ·rw[if_pos (.inr rfl)];repeat' first|refine Zz ?_|intro _
  exact d9 rfl
 rw[if_neg (show ¬ (true=false\/true=false) by decide)];repeat' first|refine Zz ?_|intro _
 cases h5:kI ⟨dY d x.x.s,x.x.s,(H9 d [72] x.x.s).p,x.x.d,x.x.a,x.x.f,x.x.g,x.x.h,x.x.t⟩ (dF (P8 d (H9 d [75] (H9 d [72] x.x.s).o).o).l).h (dF (P8 d (H9 d [75] (H9 d [72] x.x.s).o).o).l).t;rotate_left
 ·rw[if_pos rfl];repeat' first|refine Zz ?_|intro _
  exact d9 rfl
 rw[if_neg (show ¬ false=true by decide)];have q1:DOk d/\x.x.s.length<=1000000000/\(H9 d [72] x.x.s).p.length<=1000000000/\x.x.d.length<=1000000000/\x.x.f.length<=1000000000/\x.x.g.length<=1000000000:=⟨hd,om,om,om,om,om⟩;obtain⟨q3,q4,q5,q8⟩:dY d x.x.s<=1099511627776/\x.x.h<=1099511627776/\x.x.t<=1099511627776/\1<=dY d x.x.s:=Ch h2;have q6:DOk (mW d ⟨dY d x.x.s,x.x.s,(H9 d [72] x.x.s).p,x.x.d,x.x.a,x.x.f,x.x.g,x.x.h,x.x.t⟩).1:=XZ hd;have q7:DOk (pQ (mW d ⟨dY d x.x.s,x.x.s,(H9 d [72] x.x.s).p,x.x.d,x.x.a,x.x.f,x.x.g,x.x.h,x.x.t⟩).1 (aC [80] x.x.s (dY d x.x.s)) (nR ⟨dY d x.x.s,x.x.s,(H9 d [72] x.x.s).p,x.x.d,x.x.a,x.x.f,x.x.g,x.x.h,x.x.t⟩)).1:=Vu q6;repeat' first|refine Zz ?_|intro _
 by_cases h6:(mW d ⟨dY d x.x.s,x.x.s,(H9 d [72] x.x.s).p,x.x.d,x.x.a,x.x.f,x.x.g,x.x.h,x.x.t⟩).2=0
 rotate_left
 ·rw[if_pos h6,dT h6];repeat' first|refine Zz ?_|intro _
  exact d9 rfl
 rw[if_neg (nni h6),dZ (nni h6)];repeat' first|refine Zz ?_|intro _
 by_cases h7:(pQ (mW d ⟨dY d x.x.s,x.x.s,(H9 d [72] x.x.s).p,x.x.d,x.x.a,x.x.f,x.x.g,x.x.h,x.x.t⟩).1 (aC [80] x.x.s (dY d x.x.s)) (nR ⟨dY d x.x.s,x.x.s,(H9 d [72] x.x.s).p,x.x.d,x.x.a,x.x.f,x.x.g,x.x.h,x.x.t⟩)).2.e=0
 rotate_left
 ·rw[if_pos h7,dT h7];repeat' first|refine Zz ?_|intro _
  exact d9 rfl
 rw[if_neg (nni h7),dZ (nni h7)];repeat' first|refine Zz ?_|intro _
 by_cases h8:(pQ (pQ (mW d ⟨dY d x.x.s,x.x.s,(H9 d [72] x.x.s).p,x.x.d,x.x.a,x.x.f,x.x.g,x.x.h,x.x.t⟩).1 (aC [80] x.x.s (dY d x.x.s)) (nR ⟨dY d x.x.s,x.x.s,(H9 d [72] x.x.s).p,x.x.d,x.x.a,x.x.f,x.x.g,x.x.h,x.x.t⟩)).1 (H6 [78] x.x.s) (p9 110 (dY d x.x.s+1))).2.e=0
 rotate_left
 ·rw[if_pos h8,dT h8];repeat' first|refine Zz ?_|intro _
  exact d9 rfl
 rw[if_neg (nni h8),dZ (nni h8)];repeat' first|refine Zz ?_|intro _
 exact d9 rfl⟩
instance b3z {d:List Ent}{h t:Int}{x:TxX}{xs:List AV}{id:Option Value}[hx:Ents xs d]:Ans prog GL 373 [.sl 2 xs id,N7 x,int h,int t] (DOk d/\TxB x) (qA (EH d x h t)):=⟨fun hp=>by
 obtain⟨hd,hb⟩:=hp;have b1:=hb.d;have b2:=hb.s;have b3:=hb.f;have b4:=hb.g;have b5:=hb.k;have b6:DOk d/\x.f.m<=9223372036854775807:=⟨hd,hb.fm⟩;obtain⟨l1,l2,l3,l4⟩:=Ia d [72] x.x.k;have h':=hx.out;subst h';refine qF func373 ntmps373 fun _ hs=>?_;repeat' first|refine Zz ?_|intro _
 unfold EH JV nS wT iB;cases h2:dO x.x
 ·rw[if_pos rfl,if_neg (show ¬ false=true by decide),dT (show (1:Int)≠0 by decide)];repeat' first|refine Zz ?_|intro _
  exact d9 rfl
 rw[if_neg (show ¬ true=false by decide),if_pos rfl,dZ (show ¬ (0:Int)≠0 by decide)];obtain⟨q3,q4,q5,q8⟩:=Ch h2;repeat' first|refine Zz ?_|intro _
 cases h0:P7 d [72] x.x.k
 ·rw[if_pos rfl];repeat' first|refine Zz ?_|intro _
  exact d9 rfl
 rw[if_neg (show ¬ true=false by decide)];repeat' first|refine Zz ?_|intro _
 by_cases h1:(H9 d [72] x.x.k).s=3
 rotate_left
 ·rw[if_pos (.inl h1),dT h1];repeat' first|refine Zz ?_|intro _
  exact d9 rfl
 rw[dZ (nni h1)];repeat' first|refine Zz ?_|intro _
 by_cases h1':(H9 d [72] x.x.k).p=x.x.s
 rotate_left
 ·rw[if_pos (.inr h1'),dT h1'];repeat' first|refine Zz ?_|intro _
  exact d9 rfl
 rw[if_neg (show ¬ ((H9 d [72] x.x.k).s≠3\/(H9 d [72] x.x.k).p≠x.x.s) by simp[h1,h1']),dZ (nni h1')];repeat' first|refine Zz ?_|intro _
 cases h3:kI x.x h t;rotate_left
 ·rw[if_pos rfl];repeat' first|refine Zz ?_|intro _
  exact d9 rfl
 rw[if_neg (show ¬ false=true by decide)];repeat' first|refine Zz ?_|intro _
 cases h4:(gO d (aC [71] x.x.k x.x.q)).isSome;rotate_left
 ·rw[if_pos rfl];repeat' first|refine Zz ?_|intro _
  exact d9 rfl
 rw[if_neg (show ¬ false=true by decide)];repeat' first|refine Zz ?_|intro _
 cases h5:P7 d [75] (H9 d [72] x.x.k).o
 ·rw[if_pos rfl];repeat' first|refine Zz ?_|intro _
  exact d9 rfl
 rw[if_neg (show ¬ true=false by decide)];repeat' first|refine Zz ?_|intro _
 by_cases h6:dB d (H9 d [75] (H9 d [72] x.x.k).o).o x.t t (aC [80] x.x.s x.x.q) (nR x.x) x.f=0
 rotate_left
 ·rw[if_pos h6,dT h6];repeat' first|refine Zz ?_|intro _
  exact d9 rfl
 rw[if_neg (nni h6),dZ (nni h6)];have p5:DOk d/\x.x.s.length<=400000000/\x.x.k.length<=400000000/\x.x.d.length<=400000000/\x.x.f.length<=400000000/\x.x.g.length<=400000000:=⟨hd,b2,b5,b1,b3,b4⟩;have q6:DOk (cO d x.x).1:=Ae hd;have q7:=Tp (d:=d) (x:=x.x);unfold GQ;repeat' first|refine Zz ?_|intro _
 by_cases h7:(cO d x.x).2=0
 ·rw[if_pos h7,if_pos h7,dZ (nni h7)];repeat' first|refine Zz ?_|intro _
  exact d9 rfl
 ·rw[if_neg h7,if_neg h7,dT h7];have q9:(LK (cO d x.x).2).length<=1000000000:=by
   unfold LK;exact(by decide:2<=1000000000)
  repeat' first|refine Zz ?_|intro _
  exact d9 rfl⟩
end Go.Proofs.YtjhnaegpchadiaaGreatDoor

namespace Go.Proofs.YtjhnaegpchadiaaGreatDoor
open Go Go.RowKit Tw Av
attribute [local irreducible] M8 P7 kI BI mF UW UX QI QJ DU EH TI
attribute [local irreducible] LV
end Go.Proofs.YtjhnaegpchadiaaGreatDoor

namespace Go.Proofs.YtjhnaegpchadiaaGreatDoor
open Go Go.RowKit Tw Av Go.Proofs.Tryz
attribute [local irreducible] M8 P7 kI BI mF UW UX QI QJ DU EH TI
theorem b3v {d:List Ent}{h t:Int}{x:TxX}:Ans prog GL 317 [.sl 2 (d.map D5) none,N7 x,int h,int t] (DOk d/\TxB x/\K19 x.k) (qA (LV d x h t)):=⟨fun hp=>by
 obtain⟨hd,hb,hk⟩:=hp;have hq:DOk d/\TxB x:=⟨hd,hb⟩;refine qF func317 ntmps317 fun _ hs=>?_;repeat' first|refine Zz ?_|intro _
 unfold LV;rcases hk with h1|h1|h1|h1|h1|h1
 all_goals
  repeat first|rw[if_pos (show x.k=13 from h1)]|rw[if_pos (show x.k=14 from h1)]|rw[if_neg (show ¬ x.k=13 by omega)]|rw[if_pos (show x.k=1\/x.k=2 by omega)]|rw[if_neg (show ¬ (x.k=1\/x.k=2) by omega)]|rw[if_pos (show x.k=3\/x.k=4 by omega)]|rw[if_neg (show ¬ (x.k=3\/x.k=4) by omega)]|rw[if_neg (show ¬ (x.k=5\/x.k=6) by omega)]|rw[if_neg (show ¬ (x.k=9\/x.k=10) by omega)]|rw[if_neg (show ¬ (x.k=7\/x.k=8) by omega)]|rw[if_neg (show ¬ (x.k=11\/x.k=12) by omega)]
  repeat' first|refine Zz ?_|intro _
  exact d9 rfl⟩
attribute [local irreducible] LV
instance b1u {k:Nat}:ImpT (.lit (.slice none 0 0)) (.sl k [] (some (.slice none 0 0))):=⟨ImpC.nilT⟩
theorem a0j {xs:List AV}:ImpC (.agg 3 [.sl 2 xs none,.lit (.slice none 0 0),.lit (.slice none 0 0)]) (.agg 3 [.sl 2 xs none,.sl 3 [] (some (.slice none 0 0)),.sl 15 [] (some (.slice none 0 0))]):=(inferInstance:ImpT _ _).imp
attribute [local irreducible] E8 J9 Y1 I4 H9
theorem a2j {d:List Ent}{h:Int}{x:TxX}{r:Rep}(e:x.k=13):qH d h x r=⟨h,x.k,⟨r.q,x.x.s,(H9 d [72] x.x.s).p,x.x.d,x.x.a,x.x.f,x.x.g,x.x.h,x.x.t⟩,[]⟩:=by
 unfold qH;rw[if_pos e,if_neg (show ¬ x.k=14 by omega),if_neg (show ¬ x.k=15 by omega)]
theorem a2i {d:List Ent}{h:Int}{x:TxX}{r:Rep}(e:x.k=14):qH d h x r=⟨h,x.k,x.x,r.a⟩:=by
 unfold qH;rw[if_neg (show ¬ x.k=13 by omega),if_pos e]
theorem a2h {d:List Ent}{h:Int}{x:TxX}{r:Rep}(e:x.k=15):qH d h x r=⟨h,x.k,x.x,x.a⟩:=by
 unfold qH;rw[if_neg (show ¬ x.k=13 by omega),if_neg (show ¬ x.k=14 by omega),if_pos e]
theorem a2g {d:List Ent}{h:Int}{x:TxX}{r:Rep}(e:¬ x.k=13/\¬ x.k=14/\¬ x.k=15):qH d h x r=⟨h,x.k,x.x,[]⟩:=by
 unfold qH;rw[if_neg e.1,if_neg e.2.1,if_neg e.2.2]
set_option maxRecDepth 100000 in
theorem a1y {K:Int->Prop}(hDo:∀ {d:List Ent} {h t:Int} {x:TxX},Ans prog GL 229 [.sl 2 (d.map D5) none,N7 x,int h,int t] (DOk d/\TxB x/\K x.k) (.tup [Y3 (E8 d x h t).1,N8 (E8 d x h t).2]))
  {d:List Ent} {l:List Bs} {h t:Int} {xs ys:List AV} {id id2:Option Value} [hx:Ents xs d] [hy:Strs ys l]:Ans prog GL 131 [.sl 2 xs id2,.agg 3 [int h,int t,.sl 1 ys id]] (DOk d/\l.length<=1000000/\∀ s∈l,s.length<=1000000000/\(Y1 (I4 s)=0->K (J9 (I4 s)).k))
   (.agg 3 [Y3 (L8 d ⟨h,t,l⟩).1,.sl 3 ((L8 d ⟨h,t,l⟩).2.1.map N8) none,.sl 15 ((L8 d ⟨h,t,l⟩).2.2.map U3) none]):=⟨fun hp=>by
 obtain⟨hd,hl,hk⟩:=hp;have h':=hx.out;subst h';have h':=hy.out;subst h';have hm:(l.map str).length=l.length:=llm _
 haveI hDoI:∀ {d:List Ent} {h t:Int} {x:TxX},Ans prog GL 229 [.sl 2 (d.map D5) none,N7 x,int h,int t] (DOk d/\TxB x/\K x.k) (.tup [Y3 (E8 d x h t).1,N8 (E8 d x h t).2]):=hDo
 refine qF func131 ntmps131 fun _ hs=>?_;refine aT 0 Imp.sl ?_;repeat' first|refine Zz ?_|intro _
 rename_i g3 g4 g5;refine gK (g:=g5) a0j ?_;refine Q6 (fun ok w h=>h.full 172 15 none 0) ?_;refine Q6 (fun ok w h=>h.full 59 3 none 0) ?_;refine y5 (α:=Nat × Value × Value) (fun z=>[(3,ptr g3),(4,ptr g4),(5,ptr g5),(6,int z.1)])
  (fun z=>[.tail 59 3 z.2.1,.tail 172 15 z.2.2,.var g5 222 (.agg 3 [Y3 (U4 h t (d,[],[]) (l.take z.1)).1,.sl 3 ((U4 h t (d,[],[]) (l.take z.1)).2.1.map N8) (some z.2.1),.sl 15 ((U4 h t (d,[],[]) (l.take z.1)).2.2.map U3) (some z.2.2)]),.var g4 222 (.agg 3 [.lit (.slice none 0 0),.lit (.slice none 0 0),.lit (.slice none 0 0)]),.var g3 130 (.agg 3 [int h,int t,.sl 1 (l.map str) id])])
  (fun z=>z.1<=l.length) (fun z=>l.length-z.1) (0,.slice none 0 0,.slice none 0 0) ⟨rfl,rfl,rfl,rfl,trivial⟩ ?_ (Nat.zero_le _) ?_
 ·exact List.Sublist.refl _
 rintro⟨i,v7,v8⟩ hi;dsimp only at hi ⊢;repeat' first|refine Zz ?_|intro _
 refine o8 (fun h1=>?_) (fun h1=>?_)
 ·have hil:i<l.length:=om
  have hq:=YP (h:=h) (t:=t) (q:=(d,[],[])) hil;have hdq:DOk (U4 h t (d,[],[]) (l.take i)).1:=JH hd;have hlq:=zK (h:=h) (t:=t) (l:=l.take i) (q:=(d,[],[]));have hls:l[i].length<=1000000000:=(hk _ (List.getElem_mem hil)).1;have hkk:=(hk _ (List.getElem_mem hil)).2;generalize U4 h t (d,[],[]) (l.take i)=q at *;have hl1:q.2.1.length<=1000000:=by
   have:=hlq.1;simp only[List.length_take,List.length_nil] at this;omega
  have hl2:q.2.2.length<=1000000:=by
   have:=hlq.2;simp only[List.length_take,List.length_nil] at this;omega
  have hm1:(q.2.1.map N8).length=q.2.1.length:=llm _;have hm2:(q.2.2.map U3).length=q.2.2.length:=llm _;repeat' first|refine Zz ?_|intro _
  by_cases hE:Y1 (I4 l[i])=0
  rotate_left
  ·have hq':=hq.trans (YO hE);repeat' first|refine Zz ?_|intro _
   refine I1 (fun v'=>?_);repeat' first|refine Zz ?_|intro _
   refine o6 (i+1,v',v8) ⟨rfl,rfl,rfl,rfl,trivial⟩ ?_ hil (by dsimp only;omega);dsimp only;rw[hq',List.map_append];exact x9
  ·rw[hE];have hx3:DOk q.1/\TxB (J9 (I4 l[i]))/\K (J9 (I4 l[i])).k:=⟨hdq,YT _,hkk hE⟩;have hdo:DOk (E8 q.1 (J9 (I4 l[i])) h t).1:=TP hdq;have hdo2:DOk (E8 q.1 (J9 (I4 l[i])) h t).1/\([72]:Bs).length<=1000000000:=⟨hdo,dc⟩;repeat' first|refine Zz ?_|intro _
   refine I1 (fun v'=>?_);repeat' first|refine Zz ?_|intro _
   by_cases h0:(E8 q.1 (J9 (I4 l[i])) h t).2.e=0
   rotate_left
   ·have hq':=hq.trans (JG hE (fun hh=>h0 hh.1));repeat' first|refine Zz ?_|intro _
    refine o6 (i+1,v',v8) ⟨rfl,rfl,rfl,rfl,trivial⟩ ?_ hil (by dsimp only;omega);dsimp only;rw[hq',List.map_append];exact x9
   by_cases h1:13<=(J9 (I4 l[i])).k
   rotate_left
   ·have hq':=hq.trans (JG hE (fun hh=>h1 hh.2));repeat' first|refine Zz ?_|intro _
    refine o6 (i+1,v',v8) ⟨rfl,rfl,rfl,rfl,trivial⟩ ?_ hil (by dsimp only;omega);dsimp only;rw[hq',List.map_append];exact x9
   have hq':=hq.trans (YN hE h0 h1);by_cases h13:(J9 (I4 l[i])).k=13
   ·rw[a2j h13] at hq';repeat' first|refine Zz ?_|intro _
    refine I1 (fun v''=>?_);repeat' first|refine Zz ?_|intro _
    refine o6 (i+1,v',v'') ⟨rfl,rfl,rfl,rfl,trivial⟩ ?_ hil (by dsimp only;omega);dsimp only;rw[hq',List.map_append,List.map_append];exact x9
   by_cases h14:(J9 (I4 l[i])).k=14
   ·rw[a2i h14] at hq';repeat' first|refine Zz ?_|intro _
    refine I1 (fun v''=>?_);repeat' first|refine Zz ?_|intro _
    refine o6 (i+1,v',v'') ⟨rfl,rfl,rfl,rfl,trivial⟩ ?_ hil (by dsimp only;omega);dsimp only;rw[hq',List.map_append,List.map_append];exact x9
   by_cases h15:(J9 (I4 l[i])).k=15
   ·rw[a2h h15] at hq';repeat' first|refine Zz ?_|intro _
    refine I1 (fun v''=>?_);repeat' first|refine Zz ?_|intro _
    refine o6 (i+1,v',v'') ⟨rfl,rfl,rfl,rfl,trivial⟩ ?_ hil (by dsimp only;omega);dsimp only;rw[hq',List.map_append,List.map_append];exact x9
   rw[a2g ⟨h13,h14,h15⟩] at hq';repeat' first|refine Zz ?_|intro _
   refine I1 (fun v''=>?_);repeat' first|refine Zz ?_|intro _
   refine o6 (i+1,v',v'') ⟨rfl,rfl,rfl,rfl,trivial⟩ ?_ hil (by dsimp only;omega);dsimp only;rw[hq',List.map_append,List.map_append];exact x9
 ·have hi':i=l.length:=om
  subst hi';rw[List.take_length];repeat' first|refine Zz ?_|intro _
  refine E5 ?_;show Imp (.agg 3 [Y3 (U4 h t (d,[],[]) l).1,.sl 3 ((U4 h t (d,[],[]) l).2.1.map N8) (some v7),.sl 15 ((U4 h t (d,[],[]) l).2.2.map U3) (some v8)]) (.agg 3 [Y3 (U4 h t (d,[],[]) l).1,.sl 3 ((U4 h t (d,[],[]) l).2.1.map N8) none,.sl 15 ((U4 h t (d,[],[]) l).2.2.map U3) none]);exact ImpR.imp⟩
end Go.Proofs.YtjhnaegpchadiaaGreatDoor

namespace Go.Proofs.YtjhnaegpchadiaaGreatDoor
open Go Go.RowKit Tw Av
theorem dU (c:Int)(s:Bs):(j6 c s).length<=s.length+4:=by
 simp[j6,qV,List.length_take];omega
theorem jP (c n:Int):(p9 c n).length<=12:=by
 have:=yH 8 n.toNat;have:=dU c (X0 8 n.toNat);show (qV _ (X0 8 n.toNat)).length<=12;unfold j6 at this;omega
def qY (l:List Bs):Nat:=(l.map List.length).sum
theorem He (c:Int):∀ l:List Bs,(l.flatMap (j6 c)).length<=qY l+4*l.length
 | []=>by simp[qY]
 | s::l=>by
  have h1:=He c l;have h2:=dU c s;unfold qY at h1 ⊢;rw[List.flatMap_cons,lla,List.map_cons,List.sum_cons,List.length_cons];omega
theorem MF (b:BlkX):(K6 b).length<=qY b.x+4*b.x.length+28:=by
 have h1:=jP 104 b.h;have h2:=jP 116 b.t;have h3:=dU 120 (b.x.flatMap (j6 120));have h4:=He 120 b.x;show (p9 104 b.h++p9 116 b.t++j6 120 (b.x.flatMap (j6 120))).length<=_;rw[lla,lla];omega
theorem NV {n:Nat}:∀ {l:List Bs},(∀ s∈l,s.length<=n)->qY l<=n*l.length
 | [],_=>by simp[qY]
 | s::l,h=>by
  have h1:=NV (l:=l) (fun t ht=>h t (by simp[ht]));have h2:=h s sm;unfold qY at h1 ⊢;rw[List.map_cons,List.sum_cons,List.length_cons,Nat.mul_add];omega
theorem UV {b:BlkX}(h:BkG b):(K6 b).length<=200000:=by
 have h1:=MF b;have h2:=NV h.s;have h3:=h.l;omega
theorem PP (s:Bs):(y8 s).length<=s.length+16:=by
 unfold y8;rw[lla];have:=dU 82 s;have:=jP 83 (dV (j6 82 s));omega
def U2 (bs:List BlkX):Bs:=J7 (bs.map K6)
def KP (bs:List BlkX):MkX:=⟨bs.length,(U2 bs).length,bs.length⟩
def D6 (bs:List BlkX):SlX:=⟨KP bs,U2 bs,false⟩
theorem xQ (bs:List BlkX)(b:BlkX):U2 (bs++[b])=U2 bs++y8 (K6 b):=by
 unfold U2 J7;rw[List.map_append,List.flatMap_append];simp
theorem QQ (bs:List BlkX)(b:BlkX):xO (D6 bs) (K6 b)=D6 (bs++[b]):=by
 unfold xO D6 KP F7;rw[xQ];simp
structure Ro (x:DvX)(bs:List BlkX):Prop where
 dv:DvOk x
 on:x.on=true
 ws:x.ws=[]
 n:3<=x.n
 fit:DFits (H7 x) (U2 bs) (KP bs)
 rm:((U2 bs).length:Int)<=J4 x.n
 bg:BsG bs
theorem Vm:K4 jE=qR:=by kernel_rfl
theorem ZB {n:Int}(h:3<=n)(h2:n<=4096):Ro (Q3 n) []:=by
 have hz:∀ a,H7 (Q3 n) a=qR:=fun a=>rfl;refine⟨⟨⟨by show 0<=n;omega,h2⟩,?_,?_,?_,by show (0:Int)<=0/\(0:Int)<=1000000;decide⟩,rfl,rfl,h,⟨fun a=>by rw[hz];exact VY,?_,⟨by show (0:Int)<=0/\(0:Int)<200;decide,?_,?_,0,?_,dc,.inr rfl⟩⟩,?_,?_⟩
 ·exact List.Pairwise.nil
 ·simp[Q3]
 ·simp[Q3]
 ·intro j hj;simp[U2,J7] at hj
 ·exact⟨dc,dc,dc⟩
 ·rw[hz];exact Vm.symm
 ·rw[hz];kernel_rfl
 ·show (0:Int)<=(n-2)*64;omega
 ·exact⟨sm,sm,fun i h=>by simp at h⟩
theorem ZA {x:DvX}{bs:List BlkX}(h:Ro x bs):kW x=0/\dX x=D6 bs/\EP x=bs.map K6:=
 Wo h.dv h.on h.ws h.fit rfl (by show ((bs.length:Nat):Int)=((bs.map K6).length:Nat);rw[llm]) h.rm (by have:=h.n;omega)
  (fun s hs=>by
   obtain⟨b,hb,rfl⟩:=List.mem_map.1 hs;have:=UV (h.bg.g b hb).1;omega)
theorem Tf {x:DvX}{bs:List BlkX}(h:Ro x bs)(he:bs.length<190):LogOk x (D6 bs):=
 ⟨h.dv,h.on,h.ws,h.fit,rfl,h.rm,h.n,rfl,by show ((bs.length:Nat):Int)<190;omega,by show (0:Int)<=((bs.length:Nat):Int)/\((bs.length:Nat):Int)<=1000;omega⟩
section
variable {nm ky:Bs} {d:List Ent} {bs:List BlkX} {ws:List Bs} {x:DvX}
def C9 (nm ky:Bs)(d:List Ent)(bs:List BlkX)(ws:List Bs)(dd:Bool):ChX:={ opC nm ky d bs with ws:=ws,dd:=dd }
theorem UI (hd:DOk d)(hb:BsG bs):C9 nm ky d bs [] false=opC nm ky d bs:=by
 have h:=EQ (nm:=nm) (ky:=ky) hd hb bs.length (Nat.le_refl _);rw[List.take_length] at h;unfold C9;rw[<- h.ws,<- h.dd]
theorem nP (hd:DOk d)(hb:BsG bs):OpI nm ky bs (opC nm ky d bs):=by
 have h:=EQ (nm:=nm) (ky:=ky) hd hb bs.length (Nat.le_refl _)
 rwa [List.take_length] at h
structure WsG (ws:List Bs):Prop where
 l:ws.length<=16
 t:∀ s∈ws,Tx20 s
theorem WW (hb:BsG bs):0<=O5 bs/\O5 bs<=1099511627776:=by
 unfold O5;cases h:bs.getLast? with
 | none=>simp
 | some b=>exact(hb.g b (List.mem_of_getLast? h)).1.t
def G7 (bs:List BlkX)(ws:List Bs)(t:Int):BlkX:=⟨bs.length+1,max (min t 1099511627776) (O5 bs),ws⟩
theorem Cg (hb:BsG bs)(hl:bs.length<190)(hw:WsG ws)(t:Int):BsG (bs++[G7 bs ws t]):=by
 have ht:=WW hb;refine⟨by rw[lla,List.length_singleton];omega,?_,?_⟩
 ·intro b hm;rcases List.mem_append.1 hm with hm|hm
  ·exact hb.g b hm
  ·obtain rfl:=List.mem_singleton.1 hm;refine⟨⟨?_,?_,hw.l,fun s hs=>(hw.t s hs).1⟩,hw.t⟩
   ·show (1:Int)<=bs.length+1/\((bs.length:Nat):Int)+1<=1099511627776;omega
   ·show 0<=max (min t 1099511627776) (O5 bs)/\max (min t 1099511627776) (O5 bs)<=1099511627776;omega
 ·intro i hi;rw[lla,List.length_singleton] at hi;by_cases h:i<bs.length
  ·rw[List.getElem_append_left h,List.take_append_of_le_length om];exact hb.h i h
  ·obtain rfl:i=bs.length:=by omega
   rw[List.getElem_append_right (Nat.le_refl _),List.take_left];simp only[Nat.sub_self,List.getElem_singleton];refine⟨rfl,?_⟩;show O5 bs<=max (min t 1099511627776) (O5 bs);omega
theorem Ka (hd:DOk d)(h:Ro x bs)(hl:bs.length<190)(hw:WsG ws):ChOk x (D6 bs) (C9 nm ky d bs ws false):=by
 have o:=nP (nm:=nm) (ky:=ky) hd h.bg;have h1:=o.hs;have h2:=o.ms;have h3:=o.ev;have h4:=h.dv.n;have h5:=h.rm;have h6:J4 x.n=(x.n-2)*64:=rfl;refine⟨h.dv,by rw[h.ws];decide,?_,?_,?_,rfl,?_,?_,o.st,hw.l,hw.t,?_⟩
 ·show (0:Int)<=((bs.length:Nat):Int)/\((bs.length:Nat):Int)<=1000000;omega
 ·show (0:Int)<=(((U2 bs).length:Nat):Int)/\(((U2 bs).length:Nat):Int)<=1000000;omega
 ·show (0:Int)<=((bs.length:Nat):Int)/\((bs.length:Nat):Int)<=1000000;omega
 ·show (opC nm ky d bs).hs.length<(opC nm ky d bs).ms.length/\(opC nm ky d bs).ms.length<=100000;omega
 ·show (opC nm ky d bs).ev.length<=100000;omega
 ·show 0<=gM (opC nm ky d bs)/\gM (opC nm ky d bs)<=1099511627776;rw[o.tm];exact WW h.bg
theorem a2W (hd:DOk d)(hb:BsG bs){t:Int}:eO (C9 nm ky d bs ws false) t=G7 bs ws t:=by
 have o:=nP (nm:=nm) (ky:=ky) hd hb;unfold eO G7;have h1:(C9 nm ky d bs ws false).hs.length=bs.length:=o.hs;have h2:gM (C9 nm ky d bs ws false)=O5 bs:=o.tm;rw[h1,h2];rfl
theorem a2A (hd:DOk d)(hb:BsG bs){b:BlkX}:fV { C9 nm ky d bs ws false with ws:=[] } b=C9 nm ky d (bs++[b]) [] false:=by
 have o:=nP (nm:=nm) (ky:=ky) hd hb;have e:({ C9 nm ky d bs ws false with ws:=[] }:ChX)=opC nm ky d bs:=UI hd hb;rw[e,<- xN];unfold C9;have hw:(opC nm ky d (bs++[b])).ws=[]:=by rw[xN];exact o.ws
 have hdd:(opC nm ky d (bs++[b])).dd=false:=by rw[xN];exact o.dd
 rw[<- hw,<- hdd]
inductive CuS (nm ky:Bs)(d:List Ent)(x:DvX)(bs:List BlkX)(ws:List Bs)(t:Int):DvX->SlX->ChX->Int->List Rep->Prop where
 | full (h:J4 x.n-(U2 bs).length<(y8 (K6 (G7 bs ws t))).length):CuS nm ky d x bs ws t x (D6 bs) (C9 nm ky d bs ws false) 15 []
 | lost (y:DvX) (hy:y.n=x.n) (ha:x.ar=true) (h:Old y (D6 bs) (D6 (bs++[G7 bs ws t]))) (hr:((U2 (bs++[G7 bs ws t])).length:Int)<=J4 x.n):CuS nm ky d x bs ws t y { D6 bs with br:=true } (C9 nm ky d bs ws true) 14 []
 | yes (y:DvX) (hy:y.n=x.n) (ha:y.ar=x.ar) (h:Ro y (bs++[G7 bs ws t])):CuS nm ky d x bs ws t y (D6 (bs++[G7 bs ws t])) (C9 nm ky d (bs++[G7 bs ws t]) [] false) 0 (L8 (o7 (opC nm ky d bs)) (G7 bs ws t)).2.1
theorem a2V (hd:DOk d)(h:Ro x bs)(hl:bs.length<189)(hw:WsG ws)(t:Int) :
  CuS nm ky d x bs ws t (M9 x (D6 bs) (C9 nm ky d bs ws false) t).1 (M9 x (D6 bs) (C9 nm ky d bs ws false) t).2.1 (wR x (D6 bs) (C9 nm ky d bs ws false) t) (M9 x (D6 bs) (C9 nm ky d bs ws false) t).2.2 (wQ x (D6 bs) (C9 nm ky d bs ws false) t):=by
 have hg:=Cg h.bg om hw t;have hbl:=UV (hg.g (G7 bs ws t) sm).1;have hbe:=a2W (nm:=nm) (ky:=ky) (ws:=ws) hd h.bg (t:=t);unfold wR wQ;have hq:M9 x (D6 bs) (C9 nm ky d bs ws false) t=jH x (D6 bs) (K6 (G7 bs ws t)):=by unfold M9;rw[hbe]
 rw[hq,hbe];have hs:=a3e (r:=K6 (G7 bs ws t)) (Tf h om);have hlen:((U2 (bs++[G7 bs ws t])).length:Int)=(U2 bs).length+(y8 (K6 (G7 bs ws t))).length:=by
  rw[xQ,lla];omega
 have hst:o7 (C9 nm ky d bs ws false)=o7 (opC nm ky d bs):=rfl;have hroom:(jH x (D6 bs) (K6 (G7 bs ws t))).2.2≠15->¬ J4 x.n-(U2 bs).length<((y8 (K6 (G7 bs ws t))).length:Int):=by
  intro h1 h2;apply h1;unfold jH;rw[if_neg (show ¬ (D6 bs).br=true from by show ¬ (false=true);decide),if_neg om,if_pos (show J4 x.n-(D6 bs).m.b<((y8 (K6 (G7 bs ws t))).length:Int) from h2)]
 generalize hz:jH x (D6 bs) (K6 (G7 bs ws t))=z at *;rcases hs with⟨e,he⟩|⟨y,hy,ha,ho⟩|⟨y,hy,ha,hr,hL,hf,hk,hn,hw',hm⟩
 ·rcases he with⟨_,he⟩|⟨rfl,he⟩
  ·omega
  ·rw[if_neg (show ¬ ((15:Int)=0) by decide),if_neg (show ¬ ((15:Int)=0) by decide)];exact .full he
 ·rw[if_neg (show ¬ ((14:Int)=0) by decide),if_neg (show ¬ ((14:Int)=0) by decide)];rw[QQ] at ho;have:=hroom (show (14:Int)≠15 by decide);exact .lost y hy ha ho om
 ·have hst2:=hroom (show (0:Int)≠15 by decide);rw[if_pos rfl,if_pos rfl,QQ,a2A hd h.bg,hst];have e:=congrArg SlX.m (QQ bs (G7 bs ws t));refine .yes y hy ha ⟨hk,hn,hw',by rw[hy];exact h.n,?_,by rw[hy];omega,hg⟩;rw[xQ,<- show F7 (D6 bs) (K6 (G7 bs ws t))=KP (bs++[G7 bs ws t]) from e];exact hf
end
end Go.Proofs.YtjhnaegpchadiaaGreatDoor

namespace Go.Proofs.YtjhnaegpchadiaaGreatDoor
open Go Go.RowKit Tw Av Go.Proofs.Tryz
attribute [local irreducible] mF
instance (priority:=high) b3u {d:List Ent}{h t:Int}{x:TxX}{xs:List AV}{id:Option Value}[hx:Ents xs d]:Ans prog GL 317 [.sl 2 xs id,N7 x,int h,int t] ((DOk d/\TxB x)/\K20 x.k) (qA (mF d x t)):=⟨fun hp=>by
 obtain⟨hq,hk⟩:=hp;refine qF func317 ntmps317 fun _ hs=>?_;rcases hk with h|h
 ·repeat' first|refine Zz ?_|intro _
  exact d9 rfl
 ·repeat' first|refine Zz ?_|intro _
  exact d9 rfl⟩
theorem a1Y {d:List Ent}{x:TxX}{h t:Int}(hk:K20 x.k):yC d (mF d x t)=E8 d x h t:=by
 rcases hk with e|e
 ·rw[a1Z e,LX e]
 ·rw[a1X e,LW e]
attribute [local irreducible] E8
instance (priority:=high) a1z {d:List Ent}{h t:Int}{x:TxX}{xs:List AV}{id:Option Value}[hx:Ents xs d]:Ans prog GL 229 [.sl 2 xs id,N7 x,int h,int t] ((DOk d/\TxB x)/\K20 x.k) (.tup [Y3 (E8 d x h t).1,N8 (E8 d x h t).2]):=⟨fun hp=>by
 have h':=hx.out;subst h';refine qF func229 ntmps229 fun _ hs=>?_;refine aT 0 Imp.sl ?_;repeat' first|refine Zz ?_|intro _
 rw[<- a1Y hp.2];unfold yC;by_cases h:(mF d x t).2.e=0
 ·rw[if_pos h,dZ (nni h)];repeat' first|refine Zz ?_|intro _
  exact d9 rfl
 ·rw[if_neg h,dT h];repeat' first|refine Zz ?_|intro _
  exact d9 rfl⟩
end Go.Proofs.YtjhnaegpchadiaaGreatDoor

namespace Go.Proofs.YtjhnaegpchadiaaGreatDoor
open Go Go.RowKit Tw Av
attribute [local irreducible] E8
end Go.Proofs.YtjhnaegpchadiaaGreatDoor
