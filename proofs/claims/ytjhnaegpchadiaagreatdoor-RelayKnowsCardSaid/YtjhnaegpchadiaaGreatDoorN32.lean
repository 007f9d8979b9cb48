/- . -/
import Derived.Deep.OwnRows
import Derived.Test.YtjhnaegpchadiaaGreatDoorN31
set_option maxHeartbeats 64000000
namespace Go.Proofs.YtjhnaegpchadiaaGreatDoor
open Go Go.RowKit Tw Av Go.Proofs.Tryz
attribute [local irreducible] M8 P7
theorem a0o {e:Int}:Imp (J6 [.agg 4 [.lit (.slice none 0 0),.agg 3 [int e,.lit (.int .i64 0),str []]]]) (qA (fQ e)):=(inferInstance:ImpR (.agg 4 [.lit (.slice none 0 0),.agg 3 [int e,.lit (.int .i64 0),str []]]) (.agg 4 [.sl 2 [] none,.agg 3 [int e,int 0,str []]])).imp
instance b3F {e:Int}:Ans prog GL 375 [int e] True (qA (fQ e)):=⟨fun _=>by
 refine qF func375 ntmps375 fun _ hs=>?_;repeat' first|refine Zz ?_|intro _
 refine E5 ?_;exact a0o⟩
instance b3B {d:List Ent}{k v:Bs}{xs:List AV}{id:Option Value}[hx:Ents xs d]:Ans prog GL 399 [.sl 2 xs id,str k,str v] (DOk d) (qA (pQ d k v)):=⟨fun hd=>by
 refine qF func399 ntmps399 fun _ hs=>?_;repeat' first|refine Zz ?_|intro _
 unfold pQ;by_cases h:(R4 d k v).2=0
 ·rw[if_pos h,dZ (nni h)];repeat' first|refine Zz ?_|intro _
  exact d9 rfl
 ·rw[if_neg h,dT h];repeat' first|refine Zz ?_|intro _
  exact d9 rfl⟩
instance b3H {d:List Ent}{x:TxX}{xs:List AV}{id:Option Value}[hx:Ents xs d]:Ans prog GL 368 [.sl 2 xs id,N7 x] (DOk d/\TxB x) (qA (BI d x)):=⟨fun hp=>by
 obtain⟨hd,hb⟩:=hp;have b1:=hb.d;have b2:=hb.f;have b3:=hb.g;refine qF func368 ntmps368 fun _ hs=>?_;repeat' first|refine Zz ?_|intro _
 unfold BI;cases h1:bA x.x.d
 ·rw[if_pos (.inl rfl)];repeat' first|refine Zz ?_|intro _
  exact d9 rfl
 cases h2:fA x.x.g
 ·rw[if_pos (.inr (.inl rfl))];repeat' first|refine Zz ?_|intro _
  exact d9 rfl
 repeat' first|refine Zz ?_|intro _
 by_cases h3:x.k=1
 ·have h3':¬ x.k=2:=om
  rw[if_pos h3,dT h3];repeat' first|refine Zz ?_|intro _
  by_cases h4:0<tQ x.x.d
  ·rw[if_pos (.inr (.inr (.inl ⟨h3,h4⟩))),dT (show (0:Int)<((tQ x.x.d:Nat):Int) by omega)];repeat' first|refine Zz ?_|intro _
   exact d9 rfl
  ·rw[if_neg (show ¬ (true=false\/true=false\/(x.k=1/\0<tQ x.x.d)\/(x.k=2/\fA x.x.f=false)) by simp[h4,h3']),dZ (show ¬ (0:Int)<((tQ x.x.d:Nat):Int) by omega)];repeat' first|refine Zz ?_|intro _
   rw[dZ h3'];repeat' first|refine Zz ?_|intro _
   exact d9 rfl
 ·rw[if_neg h3,dZ h3];repeat' first|refine Zz ?_|intro _
  by_cases h5:x.k=2
  ·rw[dT h5];repeat' first|refine Zz ?_|intro _
   cases h6:fA x.x.f
   ·rw[if_pos (.inr (.inr (.inr ⟨h5,rfl⟩)))];repeat' first|refine Zz ?_|intro _
    exact d9 rfl
   ·rw[if_neg (show ¬ (true=false\/true=false\/(x.k=1/\0<tQ x.x.d)\/(x.k=2/\true=false)) by simp[h3])];repeat' first|refine Zz ?_|intro _
    exact d9 rfl
  ·rw[if_neg (show ¬ (true=false\/true=false\/(x.k=1/\0<tQ x.x.d)\/(x.k=2/\fA x.x.f=false)) by simp[h3,h5]),dZ h5];repeat' first|refine Zz ?_|intro _
   exact d9 rfl⟩
instance b3I {d:List Ent}{t:Int}{x:TxX}{xs:List AV}{id:Option Value}[hx:Ents xs d]:Ans prog GL 369 [.sl 2 xs id,N7 x,int t] (DOk d/\TxB x) (qA (mF d x t)):=⟨fun hp=>by
 obtain⟨hd,hb⟩:=hp;have b1:=hb.i;have b2:=hb.hh;have b3:=hb.ht;have hF:=FU d x.i;have q1:CliOk (P8 d x.i)/\(Rise (P8 d x.i).l/\(P8 d x.i).l.length<=32)/\x.h.h<=9223372036854775807/\x.h.t<=9223372036854775807:=⟨hF.ok,⟨hF.r,hF.n⟩,b2,b3⟩;have hw:CliW (pY x.y x.e x.h):=by
  unfold pY;split
  ·rename_i h;exact(RI h).w
  ·exact GY.w
 have hw2:CliW (gL (P8 d x.i) x.h x.m t):=WI hF b2 b3;refine qF func369 ntmps369 fun _ hs=>?_;repeat' first|refine Zz ?_|intro _
 unfold mF;by_cases h1:x.k=4
 ·rw[if_pos h1,dT h1];repeat' first|refine Zz ?_|intro _
  cases h2:M8 d x.i
  ·rw[if_pos rfl];repeat' first|refine Zz ?_|intro _
   exact d9 rfl
  rw[if_neg (show ¬ true=false by decide)];repeat' first|refine Zz ?_|intro _
  by_cases h3:bM (P8 d x.i) x.h x.m t=0
  rotate_left
  ·rw[if_pos h3,dT h3];repeat' first|refine Zz ?_|intro _
   exact d9 rfl
  rw[if_neg (nni h3),dZ (nni h3)];repeat' first|refine Zz ?_|intro _
  exact d9 rfl
 rw[if_neg h1,dZ h1];repeat' first|refine Zz ?_|intro _
 cases h2:I5 x.i
 ·rw[if_pos rfl];repeat' first|refine Zz ?_|intro _
  exact d9 rfl
 rw[if_neg (show ¬ true=false by decide)];repeat' first|refine Zz ?_|intro _
 cases h3:M8 d x.i;rotate_left
 ·rw[if_pos rfl];repeat' first|refine Zz ?_|intro _
  exact d9 rfl
 rw[if_neg (show ¬ false=true by decide)];repeat' first|refine Zz ?_|intro _
 by_cases h4:qB x.y x.e x.h=0
 rotate_left
 ·rw[if_pos h4,dT h4];repeat' first|refine Zz ?_|intro _
  exact d9 rfl
 rw[if_neg (nni h4),dZ (nni h4)];repeat' first|refine Zz ?_|intro _
 exact d9 rfl⟩
end Go.Proofs.YtjhnaegpchadiaaGreatDoor

namespace Go.Proofs.YtjhnaegpchadiaaGreatDoor
open Go Go.RowKit Tw Av Go.Proofs.Tryz
attribute [local irreducible] M8 P7 kI BI mF J9 Y1 I4 G5 XK
def yO (h t:Int)(l:List Bs):Bs:=p9 104 h++p9 116 t++M3 120 l
instance b5N {h t:Int}{l:List Bs}{xs:List AV}{id:Option Value}[hx:Strs xs l]:Ans prog GL 65 [.agg 3 [int h,int t,.sl 1 xs id]] ((h<=9223372036854775807/\t<=9223372036854775807)/\l.length<=8000000) (str (yO h t l)):=⟨fun hp=>by
 obtain⟨⟨h1,h2⟩,h3⟩:=hp;refine qF func65 ntmps65 fun _ hs=>?_;repeat' first|refine Zz ?_|intro _
 exact d9 rfl⟩
def Oi:Bs:=p9 116 0++M3 120 [[120]]
def Oh:Bs:=M3 120 [[120]]
attribute [local irreducible] yO Oi Oh
end Go.Proofs.YtjhnaegpchadiaaGreatDoor

namespace Go.Proofs.YtjhnaegpchadiaaGreatDoor
open Go Go.RowKit Tw Av Go.Proofs.Tryz
def K20 (k:Int):Prop:=k=3\/k=4
theorem Gw {d:List Ent}{h t:Int}{x:TxX}:Ans prog GL 10 [.agg 1 [.sl 2 (d.map D5) none],N7 x,int h,int t] (DOk d/\TxB x/\K20 x.k) (.tup [dA (E8 d x h t).1,N8 (E8 d x h t).2]):=⟨fun hp=>by
 obtain⟨hd,hb,hk⟩:=hp;have hq:DOk d/\TxB x:=⟨hd,hb⟩;refine qF func10 ntmps10 fun _ hs=>?_;repeat' first|refine Zz ?_|intro _
 rcases hk with h|h
 ·rw[h,Km,LX h];repeat' first|refine Zz ?_|intro _
  refine Nb kr ?_;repeat' first|refine Zz ?_|intro _
  exact d9 rfl
 ·rw[h,Kl,LW h];repeat' first|refine Zz ?_|intro _
  refine Nb kr ?_;repeat' first|refine Zz ?_|intro _
  exact d9 rfl⟩

structure BkG (b:BlkX):Prop where
 h:1<=b.h/\b.h<=1099511627776
 t:0<=b.t/\b.t<=1099511627776
 l:b.x.length<=16
 s:∀ s∈b.x,s.length<=6000
def K6 (b:BlkX):Bs:=yO b.h b.t b.x
instance (priority:=high) b5M {h t:Int}{l:List Bs}{xs:List AV}{id:Option Value}[hx:Strs xs l]:Ans prog GL 112 [.agg 3 [int h,int t,.sl 1 xs id]] (BkG ⟨h,t,l⟩) (int 0):=⟨fun hp=>by
 obtain⟨hh,ht,hl,hs6⟩:=hp;dsimp only at hh ht hl hs6;have h:=hx.out;subst h;have hm:(l.map str).length=l.length:=llm _;refine qF func112 ntmps112 fun _ hs=>?_;repeat' first|refine Zz ?_|intro _
 rename_i g1;refine y5 (α:=Nat) (fun i=>[(2,.lit (.int .i64 0)),(28,.sl 1 (l.map str) id),(29,int (l.map str).length),(30,int i)]) (fun i=>[])
  (fun i=>i<=l.length) (fun i=>l.length-i) 0 ⟨rfl,rfl,rfl,rfl,trivial⟩ (List.nil_sublist _) (Nat.zero_le _) ?_
 intro i hi;by_cases hil:i<l.length
 ·have h6:=hs6 _ (List.getElem_mem hil);repeat' first|refine Zz ?_|intro _
  refine o6 (i+1) ⟨rfl,rfl,rfl,rfl,trivial⟩ (List.nil_sublist _) hil om
 ·repeat' first|refine Zz ?_|intro _
  exact d9 rfl⟩
theorem bk_rd {b:BlkX}(h:BkG b):K3 104 1099511627776 (K6 b) false=b.h/\K8 104 1099511627776 (K6 b) false=false/\j5 104 8 (K6 b) false=p9 116 b.t++M3 120 b.x:=by
 have e:K6 b=p9 104 b.h++(p9 116 b.t++M3 120 b.x):=by unfold K6 yO;rw[laa]
 obtain⟨h1,h2,h3⟩:=rJ (c:=104) (most:=1099511627776) (n:=b.h) (r:=p9 116 b.t++M3 120 b.x) dc dc (by have:=h.h;omega) h.h.2 dc;rw[e];exact⟨h1,h3,h2⟩
theorem Lg {b:BlkX}(h:BkG b):K3 116 1099511627776 (p9 116 b.t++M3 120 b.x) false=b.t/\K8 116 1099511627776 (p9 116 b.t++M3 120 b.x) false=false/\j5 116 8 (p9 116 b.t++M3 120 b.x) false=M3 120 b.x:=by
 obtain⟨h1,h2,h3⟩:=rJ (c:=116) (most:=1099511627776) (n:=b.t) (r:=M3 120 b.x) dc dc h.t.1 h.t.2 dc;exact⟨h1,h3,h2⟩
theorem Lf {b:BlkX}(h:BkG b):fO 120 16 6000 (M3 120 b.x) false=b.x/\bH 120 16 6000 (M3 120 b.x) false=false/\j5 120 16777215 (M3 120 b.x) false=[]:=by
 have hl:=h.l;have hf:=AX (c:=120) (n:=6000) (l:=b.x) h.s dc;obtain⟨h1,h2,h3⟩:=JS (c:=120) (many:=16) (most:=6000) (l:=b.x) (r:=[]) dc dc om (fun s hs=>by have:=h.s s hs;omega) om;rw[List.append_nil] at h1 h2 h3;exact⟨h1,h3,h2⟩
theorem Lh (b:BlkX):(K6 b).length<=50331657:=by
 unfold K6 yO;exact LenLe.out
instance b5J {b:BlkX}:Ans prog GL 51 [str (K6 b)] (BkG b) (.tup [.agg 3 [int b.h,int b.t,.sl 1 (b.x.map str) none],int 0]):=⟨fun hb=>by
 have hp:BkG ⟨b.h,b.t,b.x⟩:=hb;have hl:=Lh b;obtain⟨e1,e2,e3⟩:=bk_rd hb;obtain⟨f1,f2,f3⟩:=Lg hb;obtain⟨k1,k2,k3⟩:=Lf hb;have l1:(p9 116 b.t++M3 120 b.x).length<=1000000000:=Nat.le_trans LenLe.out dc;have l2:(M3 120 b.x).length<=1000000000:=Nat.le_trans LenLe.out dc;generalize hS:K6 b=S at *;generalize hS1:p9 116 b.t++M3 120 b.x=S1 at *;generalize hS2:M3 120 b.x=S2 at *;refine qF func51 ntmps51 fun _ hs=>?_;repeat' first|refine Zz ?_|intro _
 refine I8 (args:=[str S]) [] _ (by rw[hs];exact sP) (fun u m1 hh=>?_) lpr;obtain⟨gr,rfl,rfl⟩:=hh;repeat' first|refine Zz ?_|intro _
 rw[e1,e2,e3];repeat' first|refine Zz ?_|intro _
 rw[f1,f2,f3];repeat' first|refine Zz ?_|intro _
 rw[k1,k2,k3,show R3 [] false=0 from rfl];repeat' first|refine Zz ?_|intro _
 exact d9 rfl⟩
def Tx20 (s:Bs):Prop:=s.length<=6000/\(Y1 (I4 s)=0->K20 (J9 (I4 s)).k)
theorem WS {d:List Ent}{l:List Bs}(hd:DOk d)(hl:l.length<=16)(h:∀ s∈l,Tx20 s):DOk d/\l.length<=1000000/\∀ s∈l,s.length<=1000000000/\(Y1 (I4 s)=0->K20 (J9 (I4 s)).k):=
 ⟨hd,om,fun s hs=>⟨Nat.le_trans (h s hs).1 dc,(h s hs).2⟩⟩
instance (priority:=high) b5I {d:List Ent}{l:List Bs}{h t:Int}{xs ys:List AV}{id:Option Value}[hx:Ents xs d][hy:Strs ys l]:Ans prog GL 113 [.agg 1 [.sl 2 xs none],.agg 3 [int h,int t,.sl 1 ys id]] (DOk d/\l.length<=1000000/\∀ s∈l,s.length<=1000000000/\(Y1 (I4 s)=0->K20 (J9 (I4 s)).k))
   (.tup [dA (L8 d ⟨h,t,l⟩).1,.sl 3 ((L8 d ⟨h,t,l⟩).2.1.map N8) none,.sl 15 ((L8 d ⟨h,t,l⟩).2.2.map U3) none]):=a1N (K:=K20) Gw
def uJ (d:List Ent):Hsh:=uF d.length (qU (d.map aW))
instance b5K {c:Bs}{h t:Int}{d:List Ent}{xs ys:List AV}{id:Option Value}[hx:Ents xs d]:Ans prog GL 114 [str c,.agg 3 [int h,int t,.sl 1 ys id],.agg 1 [.sl 2 xs none]] (d.length<=1000000) (V8 ⟨c,h,t,uJ d⟩):=⟨fun hl=>by
 have e:=hx.out;subst e;refine qF func114 ntmps114 fun _ hs=>?_;repeat' first|refine Zz ?_|intro _
 exact d9 rfl⟩
end Go.Proofs.YtjhnaegpchadiaaGreatDoor

namespace Go.Proofs.YtjhnaegpchadiaaGreatDoor
open Go Go.RowKit Tw Av
abbrev MpE:=Int × Bs × Nat
def dD (es:List MpE)(a:Int):Option Bs:=(es.find? fun e=>decide (e.1=a)).map (·.2.1)
def aB (es:List MpE)(a:Int):Nat:=es.findIdx fun e=>decide (e.1=a)
def bQ (es:List MpE)(ck:Nat)(a:Int)(s:Bs):List MpE:=if aB es a<es.length then es.modify (aB es a) (fun e=>(a,s,e.2.2)) else es++[(a,s,ck)]
def wH (es:List MpE)(ck:Nat)(a:Int):Nat:=if aB es a<es.length then ck else ck+1
def kD (es:List MpE)(a:Int):List MpE:=es.eraseIdx (aB es a)
def MpN (es:List MpE):Prop:=(es.map (·.1)).Nodup
theorem Xe {es:List MpE}{ck:Nat}{a:Int}{s:Bs}:(bQ es ck a s).map (·.1)=if aB es a<es.length then es.map (·.1) else es.map (·.1)++[a]:=by
 unfold bQ;by_cases h:aB es a<es.length
 ·rw[if_pos h,if_pos h];apply List.ext_getElem
  ·simp
  ·intro i h1 h2;simp only[List.getElem_map,List.getElem_modify];by_cases e:aB es a=i
   ·rw[if_pos e];have:=List.findIdx_getElem (w:=h);subst e;exact(of_decide_eq_true this).symm
   ·rw[if_neg e]
 ·rw[if_neg h,if_neg h];simp
theorem Xf {es:List MpE}{a:Int}(h:¬ aB es a<es.length):a ∉ es.map (·.1):=by
 intro hm;obtain⟨e,he,rfl⟩:=List.mem_map.1 hm;exact h (List.findIdx_lt_length_of_exists ⟨e,he,sm⟩)
theorem QY {es:List MpE}{ck:Nat}{a:Int}{s:Bs}(h:MpN es):MpN (bQ es ck a s):=by
 unfold MpN;rw[Xe];split
 ·exact h
 ·rename_i hn;rw[List.nodup_append];refine⟨h,sm,fun x hx y hy=>?_⟩;rw[List.mem_singleton.1 hy];exact fun e=>Xf hn (e ▸ hx)
theorem Xi {es:List MpE}{a:Int}(h:MpN es):MpN (kD es a):=by
 unfold MpN kD;exact h.sublist ((List.eraseIdx_sublist _ _).map _)
theorem tJ (e:MpE)(es:List MpE)(a:Int):dD (e::es) a=if e.1=a then some e.2.1 else dD es a:=by
 unfold dD;rw[List.find?_cons];by_cases h:e.1=a <;> simp[h]
theorem Xh (a:Int):dD [] a=none:=rfl
theorem zV (e:MpE)(es:List MpE)(a:Int):aB (e::es) a=if e.1=a then 0 else aB es a+1:=by
 unfold aB;rw[List.findIdx_cons];by_cases h:e.1=a <;> simp[h]
theorem QZ {ck:Nat}{a:Int}{s:Bs}(b:Int):∀ {es:List MpE},dD (bQ es ck a s) b=if b=a then some s else dD es b
 | []=>by
  show dD [(a,s,ck)] b=_;rw[tJ,Xh];by_cases h:b=a
  ·rw[if_pos h,if_pos h.symm]
  ·rw[if_neg h,if_neg (fun e=>h e.symm)]
 | e::es=>by
  have ih:=QZ (ck:=ck) (a:=a) (s:=s) b (es:=es);by_cases h:e.1=a
  ·have h0:aB (e::es) a=0:=by rw[zV,if_pos h]
   have hp:bQ (e::es) ck a s=(a,s,e.2.2)::es:=by
    unfold bQ;rw[h0,if_pos sm];rfl
   rw[hp,tJ,tJ];by_cases hb:b=a
   ·rw[if_pos hb,if_pos hb.symm]
   ·rw[if_neg hb,if_neg (fun e=>hb e.symm),if_neg (fun e'=>hb (e'.symm.trans h))]
  ·have h0:aB (e::es) a=aB es a+1:=by rw[zV,if_neg h]
   have hp:bQ (e::es) ck a s=e::bQ es ck a s:=by
    unfold bQ;rw[h0,List.length_cons];by_cases hl:aB es a<es.length
    ·rw[if_pos om,if_pos hl];rfl
    ·rw[if_neg om,if_neg hl];rfl
   rw[hp,tJ,tJ,ih];by_cases hb:b=a
   ·rw[if_pos hb,if_pos hb,if_neg (fun e'=>h (e'.trans hb))]
   ·rw[if_neg hb,if_neg hb]
theorem Xg {es:List MpE}{a:Int}(h:a ∉ es.map (·.1)):dD es a=none:=by
 unfold dD;rw[List.find?_eq_none.2 (fun e he=>by simpa using fun e'=>h (List.mem_map.2 ⟨e,he,e'⟩))];rfl
theorem Cr {a:Int}(b:Int):∀ {es:List MpE},MpN es->dD (kD es a) b=if b=a then none else dD es b
 | [],_=>by
  show none=_;split <;> rfl
 | e::es,hn=>by
  have hn':e.1 ∉ es.map (·.1)/\MpN es:=by
   unfold MpN at hn ⊢;rw[List.map_cons,List.nodup_cons] at hn;exact hn
  have ih:=Cr (a:=a) b hn'.2;by_cases h:e.1=a
  ·have hp:kD (e::es) a=es:=by
    unfold kD;rw[zV,if_pos h];rfl
   rw[hp,tJ];by_cases hb:b=a
   ·rw[if_pos hb];exact Xg (by rw[hb,<- h];exact hn'.1)
   ·rw[if_neg hb,if_neg (fun e'=>hb (e'.symm.trans h))]
  ·have hp:kD (e::es) a=e::kD es a:=by
    unfold kD;rw[zV,if_neg h];rfl
   rw[hp,tJ,tJ,ih];by_cases hb:b=a
   ·rw[if_pos hb,if_pos hb,if_neg (fun e'=>h (e'.trans hb))]
   ·rw[if_neg hb,if_neg hb]
def qR:Bs:=List.replicate 64 0
structure DvX where
 n:Int
 es:List MpE
 ck:Nat
 ws:List (Int × Bs)
 on:Bool
 ar:Bool
 lf:Int
 st:Int
def Q3 (n:Int):DvX:=⟨n,[],0,[],true,false,0,0⟩
def fD (x:DvX)(a:Int):Bool:=decide (0<=a/\a<x.n)
def H7 (x:DvX)(a:Int):Bs:=(dD x.es a).getD qR
def FB (es:List MpE)(ck:Nat)(w:Int × Bs):List MpE:=if w.2=qR then kD (bQ es ck w.1 w.2) w.1 else bQ es ck w.1 w.2
def Zb (es:List MpE)(ck:Nat)(w:Int × Bs):Nat:=wH es ck w.1
def aG (x:DvX)(w:Int × Bs):DvX:={ x with es:=FB x.es x.ck w,ck:=Zb x.es x.ck w }
theorem Du {es:List MpE}{ck:Nat}{w:Int × Bs}(h:MpN es):MpN (FB es ck w):=by
 unfold FB;split
 ·exact Xi (QY h)
 ·exact QY h
theorem TM {x:DvX}{w:Int × Bs}(h:MpN x.es)(b:Int):H7 (aG x w) b=if b=w.1 then w.2 else H7 x b:=by
 unfold H7 aG FB;dsimp only;split
 ·rename_i hz;rw[Cr b (QY h),QZ];by_cases hb:b=w.1
  ·rw[if_pos hb,if_pos hb,hz];rfl
  ·rw[if_neg hb,if_neg hb,if_neg hb]
 ·rw[QZ];by_cases hb:b=w.1
  ·rw[if_pos hb,if_pos hb];rfl
  ·rw[if_neg hb,if_neg hb]
def bL (ws:List (Int × Bs))(a:Int):Option Bs:=(ws.reverse.find? fun w=>decide (w.1=a)).map (·.2)
def aF (x:DvX)(a:Int):Bs:=(bL x.ws a).getD (H7 x a)
def dK (x:DvX)(w:Int × Bs):DvX:={ x with ws:=x.ws++[w] }
def X6 (x:DvX):DvX:={ x.ws.foldl aG x with ws:=[] }
def bR (x:DvX):Bool:=!(x.ar&&decide (x.lf=0))
def J3 (x:DvX):DvX:={ x with lf:=if x.ar=true then x.lf-1 else x.lf,st:=IntKind.i64.wrap (x.st+1) }
def dL (x:DvX):DvX:={ x with on:=false }
def L9 (x:DvX)(a:Int)(s:Bs):DvX × Int:=
 if x.on=false then (x,14) else if fD x a=false\/s.length≠64 then (x,1)
 else if bR x=false then (dK (dL x) (a,s),14) else (dK (J3 x) (a,s),0)
def W9 (x:DvX):DvX × Int:=if x.on=false then (x,14) else if bR x=false then (dL x,14) else (X6 (J3 x),0)
def BG (x:DvX)(k:List Bool)(torn cut:Int)(i:Nat)(w:Int × Bs):DvX:=
 if k.getD i false=true then aG x (w.1,if (i:Int)=torn then w.2.take (min (max cut 0) 64).toNat++(H7 x w.1).drop (min (max cut 0) 64).toNat else w.2) else x
def UB (k:List Bool)(torn cut:Int):Nat->DvX->List (Int × Bs)->DvX
 | _,x,[]=>x
 | i,x,w::ws=>UB k torn cut (i+1) (BG x k torn cut i w) ws
def wP (x:DvX)(k:List Bool)(torn cut:Int):DvX:=if x.n=0 then x else { UB k torn cut 0 x x.ws with ws:=[],on:=true,ar:=false }

abbrev tK (e:MpE):MapEntry:=⟨.int .i64 e.1,sv e.2.1,e.2.2⟩
abbrev O6 (es:List MpE)(ck:Nat):Obj:=.map (es.map tK).toArray ck
abbrev aA (g:Nat):AV:=.lit (.map (some g))
class TyMp (P:Program)(T:TypeId)(K V:outParam TypeId):Prop where
 out:P.underlying T=some (.map K V)
 key:P.underlying K=some (.int .i64)
 val:(P.info? V).map (·.zero)=some (some (sv []))
theorem Hg (a:Int):∀ (es:List MpE) (i:Nat),Instr.findNow (.int .i64) (.int .i64 a) (es.map tK) i=some (if aB es a<es.length then some (aB es a+i,sv ((dD es a).getD [])) else none)
 | [],i=>rfl
 | e::es,i=>by
  rw[List.map_cons];unfold Instr.findNow;have h1:Instr.sameNow (.int .i64) (.int .i64 a) (tK e).key=some (a == e.1):=by simp[Instr.sameNow]
  rw[h1,zV,tJ];by_cases h:e.1=a
  ·subst h;simp
  ·have h2:(a == e.1)=false:=by simpa using fun h'=>h h'.symm
   rw[h2,if_neg h,if_neg h];dsimp only;rw[Hg a es (i+1)];by_cases hl:aB es a<es.length
   ·rw[if_pos hl,if_pos (by simpa using hl)];congr 3
    omega
   ·rw[if_neg hl,if_neg (by simpa using hl)]
theorem Cs:∀ {es:List MpE} {a:Int},(dD es a).isSome=decide (aB es a<es.length)
 | [],a=>rfl
 | e::es,a=>by
  rw[tJ,zV];by_cases h:e.1=a
  ·rw[if_pos h,if_pos h];simp
  ·rw[if_neg h,if_neg h,Cs];simp
section
variable {P:Program} {N:Nat} {ops:Array Oper} {Q:Exit->Act->World->Prop} {rest:List Oper} {s:Av.Base} {e:Av.Env} {m:List Av.Piece} {d:Nat} {ty:TypeId} {pos:String} {af:Array Edge}
theorem OM {T K V:TypeId}[t:TyMp P T K V]{a:Int}{es:List MpE}{w:World}:(Instr.findKey K (.int .i64 a) (es.map tK)).run P w=.ok (if aB es a<es.length then some (aB es a,sv ((dD es a).getD [])) else none) w:=by
 unfold Instr.findKey;simp only[Sem.run_bind,run_underlying t.key,Result.andThen_ok,Hg,Nat.add_zero,Sem.run_pure]
theorem run_checkKey {T K V:TypeId}[t:TyMp P T K V]{a:Int}{b:Bool}{w:World}:(Instr.checkKey b 10000 K (.int .i64 a)).run P w=.ok () w:=by
 unfold Instr.checkKey;simp only[Sem.run_bind,run_underlying t.key,Result.andThen_ok,Sem.run_pure]
theorem Xd {T K V:TypeId}[t:TyMp P T K V]:∃ i,P.info? V=some i/\i.zero=some (sv []):=by
 have:=t.val;cases h:P.info? V with
 | none=>rw[h] at this;cases this
 | some i=>
  rw[h] at this;exact⟨i,rfl,by simpa using this⟩
theorem a5f {T K V:TypeId}[t:TyMp P T K V]{x i:Operand}{g:Nat}{a:Int}{es:List MpE}{ck:Nat}(h:AL P N ops Q s rest ((d,.tup [str ((dD es a).getD []),j3 (dD es a).isSome])::e) m)(hx:ev e x=some (aA g):=by exact rfl)(hi:ev e i=some (int a):=by exact rfl)
  (hm:Has m (.obj g (O6 es ck)):=by (repeat (first|exact Av.Has.here|apply Av.Has.there))) (hd:Nat.blt d N=true:=by exact rfl):AL P N ops Q s (⟨some d,.lookup T x i true,ty,pos,af,none⟩::rest) e m:=
 bF (fun ok w A hS hA=>by
  obtain⟨ho,_⟩:=hS.at_ _ hm.mem;obtain⟨iz,q1,q2⟩:=Xd (P:=P) (T:=T);have h1:=OM (P:=P) (T:=T) (a:=a) (es:=es) (w:=w);have h2:=run_checkKey (P:=P) (T:=T) (a:=a) (b:=(es.map tK).toArray.isEmpty) (w:=w);have h3:=Cs (es:=es) (a:=a);refine⟨.tuple #[sv ((dD es a).getD []),.bool (dD es a).isSome],?_,⟨_,rfl,_,_,rfl,RV0.of_lit rfl,_,_,rfl,RV0.of_lit rfl,rfl⟩⟩;have hg:(getObj g).run P w=.ok (O6 es ck) w:=by simp[getObj,Sem.run,ho]
  simp only[execOp,hA.lit hx,hA.lit hi,Instr.lookup,Sem.run_bind,run_underlying t.out,Result.andThen_ok,hg,h2,Sem.run_pure];by_cases hl:aB es a<es.length
  ·rw[if_pos hl] at h1;rw[dT hl] at h3;rw[h3];simp[h1]
  ·rw[if_neg hl] at h1;rw[dZ hl] at h3;have h4:dD es a=none:=by simpa using h3
   rw[h4];simp[h1,zeroValue,typeInfo,q1,q2]) hd h
theorem Cx {α β:Type}(f:α->β):∀ (l:List α) (i:Nat),(l.eraseIdx i).map f=(l.map f).eraseIdx i
 | [],_=>rfl
 | _::_,0=>rfl
 | a::l,i+1=>by simp[Cx f l i]
theorem YI {g:Nat}{o o':Obj}{w:World}(ho:w.heap[g]?=some o)(hn:Obj.notCells o=true):(setObj g o').run P w=.ok () { w with heap:=w.heap.setIfInBounds g o' }:=by
 cases o <;> first|(simp[setObj,Sem.run,ho];done)|cases hn
theorem a5c {T K V:TypeId}[t:TyMp P T K V]{x i y:Operand}{g:Nat}{a:Int}{b:Bs}{es:List MpE}{ck:Nat}{pre post:List Av.Piece}(h:AL P N ops Q s rest e (pre++.obj g (O6 (bQ es ck a b) (wH es ck a))::post))(hm:m=pre++.obj g (O6 es ck)::post)(hx:ev e x=some (aA g):=by exact rfl)(hi:ev e i=some (int a):=by exact rfl)(hy:ev e y=some (str b):=by exact rfl) :
  AL P N ops Q s (⟨none,.mapUpdate T x i y,ty,pos,af,none⟩::rest) e m:=
 MP (fun ok w A hS hA=>by
  subst hm;obtain⟨ho,hno⟩:=hS.at_ (.obj g (O6 es ck)) sm;obtain⟨g1,g2⟩:=hS.setObj (o':=O6 (bQ es ck a b) (wH es ck a)) rfl;have h1:=OM (P:=P) (T:=T) (a:=a) (es:=es) (w:=w);have h2:=run_checkKey (P:=P) (T:=T) (a:=a) (b:=false) (w:=w);have h3:=YI (P:=P) (o':=O6 (bQ es ck a b) (wH es ck a)) ho hno;refine⟨_,ok,?_,g1,g2⟩;have hg:(getObj g).run P w=.ok (O6 es ck) w:=by simp[getObj,Sem.run,ho]
  simp only[execOp,hA.lit hx,hA.lit hi,hA.lit hy,Instr.mapUpdate,Sem.run_bind,run_underlying t.out,Result.andThen_ok,hg,h2,h1];by_cases hl:aB es a<es.length
  ·rw[if_pos hl];have h5:(es[aB es a]'hl).1=a:=of_decide_eq_true (List.findIdx_getElem (w:=hl));have h6:(es.map tK).modify (aB es a) (fun e=>{ key:=.int .i64 a,val:=sv b,born:=e.born })=(bQ es ck a b).map tK:=by
    apply List.ext_getElem
    ·simp[bQ,hl]
    ·intro i hi1 hi2;simp[bQ,hl,List.getElem_modify];split <;> rfl
   have h8:wH es ck a=ck:=if_pos hl;rw[h8] at h3 ⊢;simp[hl,h5,Instr.keyThatStays,Instr.sameBits,h6];rw[h3];rfl
  ·rw[if_neg hl];have h7:Obj.map ((es.map tK).toArray.push { key:=.int .i64 a,val:=sv b,born:=ck }) (ck+1)=O6 (bQ es ck a b) (wH es ck a):=by
    unfold wH bQ;rw[if_neg hl,if_neg hl];simp[O6]
   simp only[h7,h3,Result.andThen_ok,Sem.run_pure]) h
theorem a5d {T K V S:TypeId}[t:TyMp P T K V]{x i:Operand}{g:Nat}{a:Int}{es:List MpE}{ck:Nat}{pre post:List Av.Piece}(h:AL P N ops Q s rest e (pre++.obj g (O6 (kD es a) ck)::post))(hm:m=pre++.obj g (O6 es ck)::post)(hx:ev e x=some (aA g):=by exact rfl)(hi:ev e i=some (int a):=by exact rfl) :
  AL P N ops Q s (⟨none,.call ⟨.builtin .delete,#[x,i],#[T,S]⟩,ty,pos,af,none⟩::rest) e m:=
 a4V (fun ok w A hS hA=>by
  subst hm;obtain⟨ho,hno⟩:=hS.at_ (.obj g (O6 es ck)) sm;obtain⟨g1,g2⟩:=hS.setObj (o':=O6 (kD es a) ck) rfl;have h1:=OM (P:=P) (T:=T) (a:=a) (es:=es) (w:=w);have h2:=run_checkKey (P:=P) (T:=T) (a:=a) (b:=(es.map tK).toArray.isEmpty) (w:=w);have h3:=YI (P:=P) (o':=O6 (kD es a) ck) ho hno;refine⟨.tuple #[],_,ok,?_,g1,g2⟩;have hg:(getObj g).run P w=.ok (O6 es ck) w:=by simp[getObj,Sem.run,ho]
  have hx':=hA.lit hx;have hi':=hA.lit hi;simp only[execOp,resolve,invoke,builtin,List.map_toArray,List.map_cons,List.map_nil,hx',hi',Builtin.delete_,List.getElem?_toArray,List.getElem?_cons_zero,List.getElem?_cons_succ,Sem.run_bind,run_underlying t.out,Result.andThen_ok,hg,h2,h1,Sem.run_pure];by_cases hl:aB es a<es.length
  ·rw[if_pos hl];have h7:Obj.map ((es.map tK).toArray.eraseIdxIfInBounds (aB es a)) ck=O6 (kD es a) ck:=by
    simp[O6,kD,Array.eraseIdxIfInBounds,hl,Cx]
   simp only[h7,h3,Sem.run_bind,Result.andThen_ok,Sem.run_pure]
  ·rw[if_neg hl];have h7:kD es a=es:=List.eraseIdx_of_length_le om;rw[h7] at h3 ⊢;simp only[Sem.run_bind,h3,Result.andThen_ok,Sem.run_pure]) h
theorem a5e {T K V:TypeId}[TyMp P T K V](h:∀ g,AL P N ops Q s rest ((d,aA g)::e) (.obj g (O6 [] 0)::m))(hd:Nat.blt d N=true:=by exact rfl):AL P N ops Q s (⟨some d,.makeMap T none,ty,pos,af,none⟩::rest) e m:=
 iD (fun ok w A hS hA=>by
  obtain⟨ok',g1,g2⟩:=hS.newObj (o:=O6 [] 0) rfl;exact⟨_,.map (some w.heap.size),w.alloc (O6 [] 0),ok',_,by simp[execOp,Instr.makeMap,newObj,Sem.run];rfl,RVl rfl,g1,g2,h w.heap.size⟩) hd
theorem Kn {ok:Ok}{w:World}:∀ l:Bs,RCs ok w (l.map fun c=>AV.lit (o5 c)) (l.map o5)
 | []=>by rw[List.map_nil,RCs];rfl
 | c::l=>by
  rw[List.map_cons,RCs];exact⟨[o5 c],l.map o5,rfl,by rw[RC];exact⟨rfl,rfl⟩,Kn l⟩
theorem GH {T E:TypeId}[t:TyE P T E 1 1][tz:TyO P E (.lit (o5 0))]{x y:Operand}{q:Int}(h:AL P N ops Q s rest ((d,.sl 1 ((List.replicate q.toNat (0:UInt8)).map fun c=>.lit (o5 c)) none)::e) m)
  (hx:ev e x=some (int q):=by exact rfl) (hy:ev e y=some (int q):=by exact rfl) (hq:0<=q/\q<=1048576:=by first|omega|decide) (hd:Nat.blt d N=true:=by exact rfl):AL P N ops Q s (⟨some d,.makeSlice T x y,ty,pos,af,none⟩::rest) e m:=by
 refine vJ (v:=.sl 1 ((List.replicate q.toNat (0:UInt8)).map fun c=>.lit (o5 c)) none) (fun ok w A hS hA=>?_) hd;obtain⟨i,z,q1,q2,hzk,hik,hib⟩:=t.zero;have e1:=tz.out;rw[q1,show bT 8 (.lit (o5 0))=some [o5 0] from rfl] at e1;have e2:z.cells.toList=[o5 0]/\rW z=false:=by simpa[q2,AV.isAgg] using e1
 have hz1:z=o5 0:=by
  have:=yL e2.2;rw[this] at e2;simpa using e2.1
 subst hz1;have hn:((q.toNat:Nat):Int)=q:=by omega
 have hr:=run_make_row (P:=P) T E i (o5 0) t.l.out q1 q2 hik rfl .i64 .i64 q.toNat (by rw[hib];omega) om w;rw[hn] at hr;have hE:=Ext.alloc w (.cells (madeCells #[o5 0] q.toNat) E);have hblk:(w.alloc (.cells (madeCells #[o5 0] q.toNat) E)).heap[w.heap.size]?=some (.cells (madeCells #[o5 0] q.toNat) E (0,0)):=heap_alloc_new w _;have hcl:(madeCells #[o5 0] q.toNat).toList=(List.replicate q.toNat (0:UInt8)).map o5:=by
  apply List.ext_getElem
  ·simp[madeCells]
  ·intro j h1 h2;simp[madeCells,Nat.mod_one]
 refine⟨.slice (some ⟨w.heap.size,0,none⟩) q.toNat q.toNat,_,ok,m,by simp[execOp,hA.lit hx,hA.lit hy,hr],?_,hS.ext hE,Ext.astp hE ok,h⟩;refine RV.sl sm sm (Nat.le_refl _) (by simp only[maxLen];omega) (fun hp=>⟨w.heap.size,0,(List.replicate q.toNat (0:UInt8)).map o5,rfl,sm,fun j v hj=>?_,Kn _⟩) (fun x hx=>by
  obtain⟨c,_,rfl⟩:=List.mem_map.1 hx;rfl)
 rw[Nat.zero_add,cell_of_row _ _ _ _ _ _ hblk];refine⟨?_,hS.fresh _ _ (Nat.le_refl _)⟩;rw[<- hcl] at hj;simpa using hj
theorem gJ {f:FuncId}[hf:FnB P f]{xs:List Operand}{ts:Array TypeId}{args:List AV}(pre m1 post:List Av.Piece){K:AV->List Av.Piece->Prop}{gl:List (Nat × AV)}(hc:Av.Spec P gl f args m1 K)(h:∀ v m1',K v m1'->AL P N ops Q s rest ((d,v)::e) (pre++(m1'++post)))
  (hm:m=pre++(m1++post):=by exact rfl) (hg:s.gl=gl:=by assumption) (hx:N9 e xs=some args:=by exact rfl) (hn:args.all R5=true:=by exact rfl) (hd:Nat.blt d N=true:=by exact rfl):AL P N ops Q s (⟨some d,.call ⟨.value (.func f),xs.toArray,ts⟩,ty,pos,af,none⟩::rest) e m:=by
 subst hm hg;refine I8 m1 (pre++post) hc (fun v m1' hk=>?_) (List.perm_append_comm_assoc _ _ _) hx hn hd;exact gG (fun ok w hS=>hS.perm (List.perm_append_comm_assoc _ _ _)) (h v m1' hk)
theorem Ni {f:FuncId}[hf:FnB P f]{xs:List Operand}{ts:Array TypeId}{args:List AV}(pre m1:List Av.Piece){K:AV->List Av.Piece->Prop}{gl:List (Nat × AV)}(hc:Av.Spec P gl f args m1 K)(h:∀ v m1',K v m1'->AL P N ops Q s rest ((d,v)::e) (pre++m1'))
  (hm:m=pre++m1:=by exact rfl) (hg:s.gl=gl:=by assumption) (hx:N9 e xs=some args:=by exact rfl) (hn:args.all R5=true:=by exact rfl) (hd:Nat.blt d N=true:=by exact rfl):AL P N ops Q s (⟨some d,.call ⟨.value (.func f),xs.toArray,ts⟩,ty,pos,af,none⟩::rest) e m:=by
 subst hm hg;refine I8 m1 pre hc (fun v m1' hk=>?_) List.perm_append_comm hx hn hd;exact gG (fun ok w hS=>hS.perm List.perm_append_comm) (h v m1' hk)
theorem wX {f:FuncId}[hf:FnB P f]{x:Operand}{xs:List Operand}{ts:Array TypeId}{args:List AV}{cs:List Value}{K:AV->List Av.Piece->Prop}{gl:List (Nat × AV)}(hc:Av.Spec P gl f (args++cs.map .lit) m K)(h:∀ v m1',K v m1'->AL P N ops Q s rest ((d,v)::e) m1')
  (hg:s.gl=gl:=by assumption) (h0:ev e x=some (F4 f cs):=by exact rfl) (hx:N9 e xs=some args:=by exact rfl) (hn:args.all R5=true:=by exact rfl) (hcs:∀ v∈cs,v.oneCell'=true:=by simp[Value.oneCell']) (hd:Nat.blt d N=true:=by exact rfl) :
  AL P N ops Q s (⟨some d,.call ⟨.value x,xs.toArray,ts⟩,ty,pos,af,none⟩::rest) e m:=by
 subst hg;refine nT m [] hc (fun v m1' hk=>?_) sm h0 hx hn hcs hd;rw[List.append_nil];exact h v m1' hk
theorem X4 {f:FuncId}[hf:FnB P f]{xs:List Operand}{ts:Array TypeId}{args:List AV}{K:AV->List Av.Piece->Prop}{gl:List (Nat × AV)}(hc:Av.Spec P gl f args m K)(h:∀ v m1',K v m1'->AL P N ops Q s rest ((d,v)::e) m1')
  (hg:s.gl=gl:=by assumption) (hx:N9 e xs=some args:=by exact rfl) (hn:args.all R5=true:=by exact rfl) (hd:Nat.blt d N=true:=by exact rfl):AL P N ops Q s (⟨some d,.call ⟨.value (.func f),xs.toArray,ts⟩,ty,pos,af,none⟩::rest) e m:=by
 subst hg;refine I8 m [] hc (fun v m1' hk=>?_) sm hx hn hd;rw[List.append_nil];exact h v m1' hk
theorem Mi {l:List Oper}(A B:List Av.Piece)(h:AL P N ops Q s l e (B++A))(hm:m=A++B:=by exact rfl):AL P N ops Q s l e m:=by
 subst hm;exact gG (fun ok w hS=>hS.perm List.perm_append_comm) h
theorem nU {x:Exit}(m' l:List Av.Piece)(h:AE N x Q s e m')(hp:m'.Perm l)(hm:l.Sublist m):AE N x Q s e m:=sJ (fun _ _ hS=>(hS.less hm).perm hp) h
theorem VD {l':List Oper}(m' l:List Av.Piece)(h:AL P N ops Q s l' e m')(hp:m'.Perm l)(hm:l.Sublist m):AL P N ops Q s l' e m:=gG (fun _ _ hS=>(hS.less hm).perm hp) h
theorem yX {c:Code}(m' l:List Av.Piece)(h:AC P N c Q s e m')(hp:m'.Perm l)(hm:l.Sublist m):AC P N c Q s e m:=Q6 (fun _ _ hS=>(hS.less hm).perm hp) h
end

def X3 (n:Nat):Bs:=(I9 n 8).reverse
def pX (s:Bs):Nat:=L6 s.reverse
theorem yP (n:Nat):(X3 n).length=8:=by simp[X3,aZ]
theorem EW {n:Nat}(h:n<18446744073709551616):pX (X3 n)=n:=by
 rw[pX,X3,List.reverse_reverse,EZ];exact Nat.mod_eq_of_lt h
structure MkX where
 e:Int
 b:Int
 c:Int
deriving DecidableEq
def jE:MkX:=⟨0,0,0⟩
def HV:Bs:=List.replicate 32 0
def K4 (m:MkX):Bs:=X3 m.e.toNat++X3 m.b.toNat++X3 m.c.toNat++HV++X3 m.e.toNat
def rM (s:Bs):MkX:=⟨pX (s.take 8),pX ((s.drop 8).take 8),pX ((s.drop 16).take 8)⟩
def KH (m:MkX):Bool:=decide (m.e<=1099511627776/\m.b<=1099511627776/\m.c<=1099511627776)
def T9 (s:Bs):Option MkX:=if s.length=64/\KH (rM s)=true/\K4 (rM s)=s then some (rM s) else none
def rR (a b:Bs):MkX:=if ((T9 a).getD jE).e<((T9 b).getD jE).e then (T9 b).getD jE else (T9 a).getD jE
structure MkB (m:MkX):Prop where
 e:0<=m.e/\m.e<=1099511627776
 b:0<=m.b/\m.b<=1099511627776
 c:0<=m.c/\m.c<=1099511627776
theorem EO (m:MkX):(K4 m).length=64:=by
 unfold K4 HV;simp[yP]
theorem EN (m:MkX):(K4 m).take 8=X3 m.e.toNat/\((K4 m).drop 8).take 8=X3 m.b.toNat/\((K4 m).drop 16).take 8=X3 m.c.toNat/\(K4 m).drop 56=X3 m.e.toNat:=by
 have h1:=yP m.e.toNat;have h2:=yP m.b.toNat;have h3:=yP m.c.toNat;have hz:HV.length=32:=by simp[HV]
 unfold K4;generalize X3 m.e.toNat=A at *;generalize X3 m.b.toNat=B at *;generalize X3 m.c.toNat=C at *;refine⟨?_,?_,?_,?_⟩
 ·rw[laa,laa,laa,List.take_left' h1]
 ·rw[laa,laa,laa,List.drop_left' h1,List.take_left' h2]
 ·rw[laa,laa,List.drop_left' (by rw[lla];omega),List.take_left' h3]
 ·rw[List.drop_left' (by simp only[List.length_append];omega)]
theorem Tz {m:MkX}(h:MkB m):rM (K4 m)=m:=by
 obtain⟨a,b,c,_⟩:=EN m;unfold rM;rw[a,b,c,EW (by have:=h.e;omega),EW (by have:=h.b;omega),EW (by have:=h.c;omega)];have h1:((m.e.toNat:Nat):Int)=m.e:=by have:=h.e;omega
 have h2:((m.b.toNat:Nat):Int)=m.b:=by have:=h.b;omega
 have h3:((m.c.toNat:Nat):Int)=m.c:=by have:=h.c;omega
 rw[h1,h2,h3]
theorem Pv {m:MkX}(h:MkB m):T9 (K4 m)=some m:=by
 unfold T9;rw[Tz h,if_pos ⟨EO m,dT ⟨h.e.2,h.b.2,h.c.2⟩,rfl⟩]
theorem Pw {s:Bs}{m:MkX}(h:T9 s=some m):K4 m=s:=by
 unfold T9 at h;split at h
 ·rename_i hh;injection h with h
  rw[<- h];exact hh.2.2
 ·cases h

def uG (q:Nat × Nat)(c:UInt8):Nat × Nat:=((q.1+c.toNat)%65521,(q.2+(q.1+c.toNat)%65521)%65521)
def mV (s:Bs):Nat × Nat:=s.foldl uG (1,0)
def dV (s:Bs):Int:=((mV s).2*65536+(mV s).1:Nat)
theorem OG (s:Bs):(mV s).1<65521/\(mV s).2<65521:=by
 unfold mV
 suffices h:∀ (s:Bs) (q:Nat × Nat),q.1<65521/\q.2<65521->(s.foldl uG q).1<65521/\(s.foldl uG q).2<65521 from h s _ dc
 intro s
 induction s with
 | nil=>exact fun q h=>h
 | cons c s ih=>exact fun q _=>ih _ ⟨Nat.mod_lt _ dc,Nat.mod_lt _ dc⟩
theorem OE (s:Bs):0<=dV s/\dV s<=4294967295:=by
 have:=OG s;unfold dV;omega
def y8 (s:Bs):Bs:=j6 82 s++p9 83 (dV (j6 82 s))
def V7 (s:Bs):Bs:=j5 82 1048576 s false
def aL (s:Bs):Bool:=z8 82 1048576 s false
def aK (s:Bs):Bs:=D8 82 1048576 s false
def iM (s:Bs):Bs:=j5 83 8 (V7 s) (aL s)
def xD (s:Bs):Bool:=K8 83 4294967295 (V7 s) (aL s)
def xE (s:Bs):Int:=K3 83 4294967295 (V7 s) (aL s)
def fG (s:Bs):Bool:=!xD s&&decide (xE s=dV (s.take (s.length-(V7 s).length)))
theorem Tq (s:Bs):4<=(y8 s).length:=by
 unfold y8;rw[lla];have:4<=(j6 82 s).length:=by
  unfold j6 qV;simp
 omega
theorem Qh {s r:Bs}(h:s.length<=1048576):fG (y8 s++r)=true/\aK (y8 s++r)=s/\iM (y8 s++r)=r:=by
 obtain⟨a1,a2,a3⟩:=rH (c:=82) (most:=1048576) (s:=s) (r:=p9 83 (dV (j6 82 s))++r) dc dc om om;have e:y8 s++r=j6 82 s++(p9 83 (dV (j6 82 s))++r):=by unfold y8;rw[laa]
 have hs:=OE (j6 82 s);obtain⟨b1,b2,b3⟩:=rJ (c:=83) (most:=4294967295) (n:=dV (j6 82 s)) (r:=r) dc dc hs.1 hs.2 dc;have hA:V7 (y8 s++r)=p9 83 (dV (j6 82 s))++r:=by unfold V7;rw[e,a2]
 have hB:aL (y8 s++r)=false:=by unfold aL;rw[e,a3]
 refine⟨?_,by unfold aK;rw[e,a1],by unfold iM;rw[hA,hB,b2]⟩;unfold fG xD xE;rw[hA,hB,b1,b3,e,lla,Nat.add_sub_cancel,List.take_left']
 ·rw[dT rfl];rfl
 ·rfl
theorem Qj {s:Bs}(h:fG s=true):(iM s).length<s.length:=by
 unfold fG at h;rw[bet,Bool.not_eq_true'] at h;have hb:aL s=false:=by
  cases e:aL s with
  | false=>rfl
  | true=>
   have:=h.1;unfold xD K8 at this;rw[e] at this;simp[nC,z8,wC] at this
 have h1:=OQ (c:=82) (most:=1048576) (s:=s) (b:=false) hb;have h2:=(X5 83 8 (V7 s) (aL s)).1;show (j5 83 8 (V7 s) (aL s)).length<s.length;have:(V7 s).length<s.length:=h1;omega
def mI:Nat->Bs->List Bs × Bs
 | 0,s=>([],s)
 | f+1,s=>if fG s=true then (aK s::(mI f (iM s)).1,(mI f (iM s)).2) else ([],s)
def mH (s:Bs):List Bs:=(mI (s.length+1) s).1
def wY (s:Bs):Bs:=(mI (s.length+1) s).2
def J7 (l:List Bs):Bs:=l.flatMap y8
theorem Qi:fG []=false:=by kernel_rfl
theorem Nq:∀ (l:List Bs) (f:Nat),l.length<f->(∀ s∈l,s.length<=1048576)->mI f (J7 l)=(l,[])
 | [],f,hf,_=>by
  rcases f with _|f
  ·omega
  ·show (if fG []=true then _ else _)=_;rw[Qi];rfl
 | s::l,f,hf,h=>by
  rcases f with _|f
  ·omega
  ·have e:J7 (s::l)=y8 s++J7 l:=rfl;obtain⟨a,b,c⟩:=Qh (s:=s) (r:=J7 l) (h s sm);have ih:=Nq l f (by simp at hf;omega) (fun t ht=>h t (by simp[ht]));rw[e,mI,a,b,c,ih];rfl
theorem Cz (l:List Bs):l.length<=(J7 l).length:=by
 induction l with
 | nil=>exact Nat.zero_le _
 | cons s l ih=>
  have e:J7 (s::l)=y8 s++J7 l:=rfl;have:=Tq s;rw[e,lla,List.length_cons];omega
theorem Mo {l:List Bs}(h:∀ s∈l,s.length<=1048576):mH (J7 l)=l/\wY (J7 l)=[]:=by
 have:=Nq l ((J7 l).length+1) (Nat.lt_succ_of_le (Cz l)) h;unfold mH wY;rw[this];exact⟨rfl,rfl⟩
end Go.Proofs.YtjhnaegpchadiaaGreatDoor
