/- . -/
import Derived.Deep.OwnRows
import Derived.Test.YtgcmdlboancepaaGreatDoorQ35
set_option maxHeartbeats 64000000
namespace Go.Proofs.Z
open Go Go.RowKit Tw Av Go.Proofs.Tryz
section
variable {xs:List AV}{d:List Ent}
attribute [local irreducible] Q4 M0
theorem a4O {e:Int}:Imp (D8 [.agg 4 [.lit (.slice none 0 0),.agg 3 [int e,.lit (.int .i64 0),str []]]]) (qA (fQ e)):=(inferInstance:ImpR (.agg 4 [.lit (.slice none 0 0),.agg 3 [int e,.lit (.int .i64 0),str []]]) (.agg 4 [.sl 2 [] none,.agg 3 [int e,int 0,str []]])).imp
instance b8L {e:Int}:Ans prog GL 402 [int e] True (qA (fQ e)):=⟨λ_=>by
 refine ze func402 ntmps402 λ_ hs=>?_;repeat' first|refine Z ?_|intro
 refine F9 ?_;exact a4O⟩
instance b8G {k v:Bs}{id:Option Value}[hx:Ents xs d]:Ans prog GL 427 [.sl 2 xs id,str k,str v] (DOk d) (qA (pQ d k v)):=⟨λhd=>by
 refine ze func427 ntmps427 λ_ hs=>?_;repeat' first|refine Z ?_|intro
 unfold pQ;by_cases h:(P7 d k v).2=0
 ·rw[if_pos h,dZ (nni h)];exact j4
 rw[if_neg h,dT h];exact j4⟩
instance b8O {x:TxX}{id:Option Value}[hx:Ents xs d]:Ans prog GL 395 [.sl 2 xs id,x9 x] (DOk d/\TxB x) (qA (DF d x)):=⟨λhp=>by
 obtain⟨hd,hb⟩:=hp;have b1:=hb.d;have b2:=hb.f;have b3:=hb.g;refine ze func395 ntmps395 λ_ hs=>?_;repeat' first|refine Z ?_|intro
 unfold DF;cases h1:bD x.x.d
 ·rw[if_pos (.inl rfl)];exact j4
 cases h2:eG x.x.g
 ·rw[if_pos (.inr (.inl rfl))];exact j4
 repeat' first|refine Z ?_|intro
 by_cases h3:x.k=1
 ·have h3':¬ x.k=2:=om
  rw[if_pos h3,dT h3];repeat' first|refine Z ?_|intro
  by_cases h4:0<wR x.x.d
  ·rw[if_pos (.inr (.inr (.inl ⟨h3,h4⟩))),dT (show (0:Int)<((wR x.x.d:Nat):Int) by omega)];exact j4
  rw[if_neg (show ¬ (true=false\/true=false\/(x.k=1/\0<wR x.x.d)\/(x.k=2/\eG x.x.f=false)) by simp[h4,h3']),dZ (show ¬ (0:Int)<((wR x.x.d:Nat):Int) by omega)];repeat' first|refine Z ?_|intro
  rw[dZ h3'];exact j4
 rw[if_neg h3,dZ h3];repeat' first|refine Z ?_|intro
 by_cases h5:x.k=2
 ·rw[dT h5];repeat' first|refine Z ?_|intro
  cases h6:eG x.x.f
  ·rw[if_pos (.inr (.inr (.inr ⟨h5,rfl⟩)))];exact j4
  rw[if_neg (show ¬ (true=false\/true=false\/(x.k=1/\0<wR x.x.d)\/(x.k=2/\true=false)) by simp[h3])];exact j4
 rw[if_neg (show ¬ (true=false\/true=false\/(x.k=1/\0<wR x.x.d)\/(x.k=2/\eG x.x.f=false)) by simp[h3,h5]),dZ h5];exact j4⟩
instance b8P {t:Int}{x:TxX}{id:Option Value}[hx:Ents xs d]:Ans prog GL 396 [.sl 2 xs id,x9 x,int t] (DOk d/\TxB x) (qA (uJ d x t)):=⟨λhp=>by
 obtain⟨hd,hb⟩:=hp;have b1:=hb.i;have b2:=hb.hh;have b3:=hb.ht;have hF:=LG d x.i;have q1:CliOk (U9 d x.i)/\(Rise (U9 d x.i).l/\(U9 d x.i).l.length<=32)/\x.h.h<=9223372036854775807/\x.h.t<=9223372036854775807:=⟨hF.ok,⟨hF.r,hF.n⟩,b2,b3⟩;have hw:CliW (uD x.y x.e x.h):=by
  unfold uD;split
  ·rename_i h;exact(WU h).w
  exact ML.w
 have hw2:CliW (kN (U9 d x.i) x.h x.m t):=Cm hF b2 b3;refine ze func396 ntmps396 λ_ hs=>?_;repeat' first|refine Z ?_|intro
 unfold uJ;by_cases h1:x.k=4
 ·rw[if_pos h1,dT h1];repeat' first|refine Z ?_|intro
  cases h2:Q4 d x.i
  ·rw[if_pos rfl];exact j4
  rw[if_neg (show ¬ true=false by decide)];repeat' first|refine Z ?_|intro
  by_cases h3:gV (U9 d x.i) x.h x.m t=0
  rotate_left
  ·rw[if_pos h3,dT h3];exact j4
  rw[if_neg (nni h3),dZ (nni h3)];exact j4
 rw[if_neg h1,dZ h1];repeat' first|refine Z ?_|intro
 cases h2:J6 x.i
 ·rw[if_pos rfl];exact j4
 rw[if_neg (show ¬ true=false by decide)];repeat' first|refine Z ?_|intro
 cases h3:Q4 d x.i;rotate_left
 ·rw[if_pos rfl];exact j4
 rw[if_neg (show ¬ false=true by decide)];repeat' first|refine Z ?_|intro
 by_cases h4:uE x.y x.e x.h=0
 rotate_left
 ·rw[if_pos h4,dT h4];exact j4
 rw[if_neg (nni h4),dZ (nni h4)];exact j4⟩
end

section
attribute [local irreducible] Q4 M0 V9 DF uJ K6 aG I6 F8 Dw
def DR (h t:Int)(l:List Bs):Bs:=D7 104 h++D7 116 t++O8 120 l
instance c1F {h t:Int}{l:List Bs}{xs:List AV}{id:Option Value}[hx:Strs xs l]:Ans prog GL 56 [.agg 3 [int h,int t,.sl 1 xs id]] ((h<=9223372036854775807/\t<=9223372036854775807)/\l.length<=8000000) (str (DR h t l)):=⟨λhp=>by
 obtain⟨⟨h1,h2⟩,h3⟩:=hp;refine ze func56 ntmps56 λ_ hs=>?_;exact j4⟩
def Xu:Bs:=D7 116 0++O8 120 [[120]]
def Xr:Bs:=O8 120 [[120]]
attribute [local irreducible] DR Xu Xr
end

section
def K20 (k:Int):Prop:=k=3\/k=4\/k=13\/k=14\/k=15\/k=16
attribute [local irreducible] Q4 M0 V9 AF zS pI qG AX AY zO zP qJ qW uN tH gL H9
theorem a6j {d:List Ent}{h t:Int}{x:TxX}:Ans prog GL 14 [.agg 1 [.sl 2 (d.map D5) none],x9 x,int h,int t] (DOk d/\TxB x/\K20 x.k) (.tup [dA (H9 d x h t).1,P5 (H9 d x h t).2]):=⟨λhp=>by
 obtain⟨hd,hb,hk⟩:=hp;have hq:DOk d/\TxB x:=⟨hd,hb⟩;refine ze func14 ntmps14 λ_ hs=>?_;repeat' first|refine Z ?_|intro
 rcases hk with h|h|h|h|h|h
 ·rw[h,Ub,QS h];repeat' first|refine Z ?_|intro
  refine IB kr ?_;exact j4
 ·rw[h,Ua,YQ h];repeat' first|refine Z ?_|intro
  refine IB kr ?_;exact j4
 ·rw[h,Uf,YU h];repeat' first|refine Z ?_|intro
  refine IB kr ?_;exact j4
 ·rw[h,Ue,YT h];repeat' first|refine Z ?_|intro
  refine IB kr ?_;exact j4
 ·rw[h,Ud,YS h];repeat' first|refine Z ?_|intro
  refine IB kr ?_;exact j4
 rw[h,Uc,YR h];repeat' first|refine Z ?_|intro
 refine IB kr ?_;exact j4⟩
end

section
variable {xs:List AV}{l:List Bs}{h t:Int}{b:BlkX}{d:List Ent}
structure BkG (b:BlkX):Prop where
 h:1<=b.h/\b.h<=1099511627776
 t:0<=b.t/\b.t<=1099511627776
 l:b.x.length<=16
 s:∀ s∈b.x,s.length<=6000
def M5 (b:BlkX):Bs:=DR b.h b.t b.x
instance (priority:=high) c1E {id:Option Value}[hx:Strs xs l]:Ans prog GL 143 [.agg 3 [int h,int t,.sl 1 xs id]] (BkG ⟨h,t,l⟩) (int 0):=⟨λhp=>by
 obtain⟨hh,ht,hl,hs6⟩:=hp;dsimp only at hh ht hl hs6;have h:=hx.out;subst h;have hm:(l.map str).length=l.length:=llm _;refine ze func143 ntmps143 λ_ hs=>?_;repeat' first|refine Z ?_|intro
 rename_i g1;refine y9 (α:=Nat) (λi=>[(2,.lit (.int .i64 0)),(28,.sl 1 (l.map str) id),(29,int (l.map str).length),(30,int i)]) (λi=>[])
  (λi=>i<=l.length) (λi=>l.length-i) 0 zc (List.nil_sublist _) (Nat.zero_le _) ?_
 intro i hi;by_cases hil:i<l.length
 ·have h6:=hs6 _ (List.getElem_mem hil);repeat' first|refine Z ?_|intro
  refine o9 (i+1) zc (List.nil_sublist _) hil om
 exact j4⟩
theorem bk_rd (h:BkG b):L9 104 1099511627776 (M5 b) false=b.h/\N9 104 1099511627776 (M5 b) false=false/\o8 104 8 (M5 b) false=D7 116 b.t++O8 120 b.x:=by
 have e:M5 b=D7 104 b.h++(D7 116 b.t++O8 120 b.x):=by unfold M5 DR;rw[laa]
 obtain⟨h1,h2,h3⟩:=tX (c:=104) (most:=1099511627776) (n:=b.h) (r:=D7 116 b.t++O8 120 b.x) dc dc (by have:=h.h;omega) h.h.2 dc;rw[e];exact⟨h1,h3,h2⟩
theorem Uw (h:BkG b):L9 116 1099511627776 (D7 116 b.t++O8 120 b.x) false=b.t/\N9 116 1099511627776 (D7 116 b.t++O8 120 b.x) false=false/\o8 116 8 (D7 116 b.t++O8 120 b.x) false=O8 120 b.x:=by
 obtain⟨h1,h2,h3⟩:=tX (c:=116) (most:=1099511627776) (n:=b.t) (r:=O8 120 b.x) dc dc h.t.1 h.t.2 dc;exact⟨h1,h3,h2⟩
theorem Uv (h:BkG b):jJ 120 16 6000 (O8 120 b.x) false=b.x/\eF 120 16 6000 (O8 120 b.x) false=false/\o8 120 16777215 (O8 120 b.x) false=[]:=by
 have hl:=h.l;have hf:=GH (c:=120) (n:=6000) (l:=b.x) h.s dc;obtain⟨h1,h2,h3⟩:=OH (c:=120) (many:=16) (most:=6000) (l:=b.x) (r:=[]) dc dc om (λs hs=>by have:=h.s s hs;omega) om;rw[List.append_nil] at h1 h2 h3;exact⟨h1,h3,h2⟩
theorem Uy (b:BlkX):(M5 b).length<=50331657:=by
 unfold M5 DR;exact LenLe.out
instance c1B :Ans prog GL 61 [str (M5 b)] (BkG b) (.tup [.agg 3 [int b.h,int b.t,.sl 1 (b.x.map str) none],int 0]):=⟨λhb=>by
 have hp:BkG ⟨b.h,b.t,b.x⟩:=hb;have hl:=Uy b;obtain⟨e1,e2,e3⟩:=bk_rd hb;obtain⟨f1,f2,f3⟩:=Uw hb;obtain⟨k1,k2,k3⟩:=Uv hb;have l1:(D7 116 b.t++O8 120 b.x).length<=1000000000:=Nat.le_trans LenLe.out dc;have l2:(O8 120 b.x).length<=1000000000:=Nat.le_trans LenLe.out dc;generalize hS:M5 b=S at *;generalize hS1:D7 116 b.t++O8 120 b.x=S1 at *;generalize hS2:O8 120 b.x=S2 at *;refine ze func61 ntmps61 λ_ hs=>?_;repeat' first|refine Z ?_|intro
 refine H6 (args:=[str S]) [] _ (by rw[hs];exact wH) (λu m1 hh=>?_) lpr;obtain⟨gr,rfl,rfl⟩:=hh;repeat' first|refine Z ?_|intro
 rw[e1,e2,e3];repeat' first|refine Z ?_|intro
 rw[f1,f2,f3];repeat' first|refine Z ?_|intro
 rw[k1,k2,k3,show U7 [] false=0 from rfl];exact j4⟩
def Tx20 (s:Bs):Prop:=s.length<=6000/\(aG (I6 s)=0->K20 (K6 (I6 s)).k)
theorem Cy (hd:DOk d)(hl:l.length<=16)(h:∀ s∈l,Tx20 s):DOk d/\l.length<=1000000/\∀ s∈l,s.length<=1000000000/\(aG (I6 s)=0->K20 (K6 (I6 s)).k):=
 ⟨hd,om,λs hs=>⟨Nat.le_trans (h s hs).1 dc,(h s hs).2⟩⟩
instance (priority:=high) c1A {ys:List AV}{id:Option Value}[hx:Ents xs d][hy:Strs ys l]:Ans prog GL 126 [.agg 1 [.sl 2 xs none],.agg 3 [int h,int t,.sl 1 ys id]] (DOk d/\l.length<=1000000/\∀ s∈l,s.length<=1000000000/\(aG (I6 s)=0->K20 (K6 (I6 s)).k))
   (.tup [dA (M7 d ⟨h,t,l⟩).1,.sl 3 ((M7 d ⟨h,t,l⟩).2.1.map P5) none,.sl 15 ((M7 d ⟨h,t,l⟩).2.2.map Q0) none]):=a6n (K:=K20) a6j
def uY (d:List Ent):Hsh:=xE d.length (gX (d.map U3))
instance c1C {c:Bs}{ys:List AV}{id:Option Value}[hx:Ents xs d]:Ans prog GL 127 [str c,.agg 3 [int h,int t,.sl 1 ys id],.agg 1 [.sl 2 xs none]] (d.length<=1000000) (Q7 ⟨c,h,t,uY d⟩):=⟨λhl=>by
 have e:=hx.out;subst e;refine ze func127 ntmps127 λ_ hs=>?_;exact j4⟩
end
end Go.Proofs.Z

namespace Go.Proofs.Z
open Go Go.RowKit Tw Av
section
variable {a:Int}{ck:Nat}
abbrev MpE:=Int × Bs × Nat
variable {es:List MpE}
def fT (es:List MpE)(a:Int):Option Bs:=(es.find? λe=>decide (e.1=a)).map (·.2.1)
def bL (es:List MpE)(a:Int):Nat:=es.findIdx λe=>decide (e.1=a)
def eY (es:List MpE)(ck:Nat)(a:Int)(s:Bs):List MpE:=if bL es a<es.length then es.modify (bL es a) (λe=>(a,s,e.2.2)) else es++[(a,s,ck)]
def zR (es:List MpE)(ck:Nat)(a:Int):Nat:=if bL es a<es.length then ck else ck+1
def mP (es:List MpE)(a:Int):List MpE:=es.eraseIdx (bL es a)
def MpN (es:List MpE):Prop:=(es.map (·.1)).Nodup
theorem a3d {s:Bs}:(eY es ck a s).map (·.1)=if bL es a<es.length then es.map (·.1) else es.map (·.1)++[a]:=by
 unfold eY;by_cases h:bL es a<es.length
 ·rw[if_pos h,if_pos h];apply List.ext_getElem
  ·simp
  intro i h1 h2;simp only[List.getElem_map,List.getElem_modify];by_cases e:bL es a=i
  ·rw[if_pos e];have:=List.findIdx_getElem (w:=h);subst e;exact(of_decide_eq_true this).symm
  rw[if_neg e]
 rw[if_neg h,if_neg h];simp
theorem a3e (h:¬ bL es a<es.length):a ∉ es.map (·.1):=by
 intro hm;obtain⟨e,he,rfl⟩:=List.mem_map.1 hm;exact h (List.findIdx_lt_length_of_exists ⟨e,he,sm⟩)
theorem WK {s:Bs}(h:MpN es):MpN (eY es ck a s):=by
 unfold MpN;rw[a3d];split
 ·exact h
 rename_i hn;rw[List.nodup_append];refine⟨h,sm,λx hx y hy=>?_⟩;rw[List.mem_singleton.1 hy];exact λe=>a3e hn (e ▸ hx)
theorem a3h (h:MpN es):MpN (mP es a):=by
 unfold MpN mP;exact h.sublist ((List.eraseIdx_sublist _ _).map _)
theorem wN (e:MpE)(es:List MpE)(a:Int):fT (e::es) a=if e.1=a then some e.2.1 else fT es a:=by
 unfold fT;rw[List.find?_cons];by_cases h:e.1=a <;> simp[h]
theorem a3g (a:Int):fT [] a=none:=rfl
theorem FJ (e:MpE)(es:List MpE)(a:Int):bL (e::es) a=if e.1=a then 0 else bL es a+1:=by
 unfold bL;rw[List.findIdx_cons];by_cases h:e.1=a <;> simp[h]
theorem WL {ck:Nat}{a:Int}{s:Bs}(b:Int):∀ {es:List MpE},fT (eY es ck a s) b=if b=a then some s else fT es b
 | []=>by
  show fT [(a,s,ck)] b=_;rw[wN,a3g];by_cases h:b=a
  ·rw[if_pos h,if_pos h.symm]
  rw[if_neg h,if_neg (λe=>h e.symm)]
 | e::es=>by
  have ih:=WL (ck:=ck) (a:=a) (s:=s) b (es:=es);by_cases h:e.1=a
  ·have h0:bL (e::es) a=0:=by rw[FJ,if_pos h]
   have hp:eY (e::es) ck a s=(a,s,e.2.2)::es:=by
    unfold eY;rw[h0,if_pos sm];rfl
   rw[hp,wN,wN];by_cases hb:b=a
   ·rw[if_pos hb,if_pos hb.symm]
   rw[if_neg hb,if_neg (λe=>hb e.symm),if_neg (λe'=>hb (e'.symm.trans h))]
  have h0:bL (e::es) a=bL es a+1:=by rw[FJ,if_neg h]
  have hp:eY (e::es) ck a s=e::eY es ck a s:=by
   unfold eY;rw[h0,List.length_cons];by_cases hl:bL es a<es.length
   ·rw[if_pos om,if_pos hl];rfl
   rw[if_neg om,if_neg hl];rfl
  rw[hp,wN,wN,ih];by_cases hb:b=a
  ·rw[if_pos hb,if_pos hb,if_neg (λe'=>h (e'.trans hb))]
  rw[if_neg hb,if_neg hb]
theorem a3f (h:a ∉ es.map (·.1)):fT es a=none:=by
 unfold fT;rw[List.find?_eq_none.2 (λe he=>by simpa using λe'=>h (List.mem_map.2 ⟨e,he,e'⟩))];rfl
theorem Kt {a:Int}(b:Int):∀ {es:List MpE},MpN es->fT (mP es a) b=if b=a then none else fT es b
 | [],_=>by
  show none=_;split <;> rfl
 | e::es,hn=>by
  have hn':e.1 ∉ es.map (·.1)/\MpN es:=by
   unfold MpN at hn ⊢;rw[List.map_cons,List.nodup_cons] at hn;exact hn
  have ih:=Kt (a:=a) b hn'.2;by_cases h:e.1=a
  ·have hp:mP (e::es) a=es:=by
    unfold mP;rw[FJ,if_pos h];rfl
   rw[hp,wN];by_cases hb:b=a
   ·rw[if_pos hb];exact a3f (by rw[hb,<- h];exact hn'.1)
   rw[if_neg hb,if_neg (λe'=>hb (e'.symm.trans h))]
  have hp:mP (e::es) a=e::mP es a:=by
   unfold mP;rw[FJ,if_neg h];rfl
  rw[hp,wN,wN,ih];by_cases hb:b=a
  ·rw[if_pos hb,if_pos hb,if_neg (λe'=>h (e'.trans hb))]
  rw[if_neg hb,if_neg hb]
def uO:Bs:=List.replicate 64 0
structure DvX where
 n:Int
 es:List MpE
 ck:Nat
 ws:List (Int × Bs)
 on:Bool
 ar:Bool
 lf:Int
 st:Int
def U0 (n:Int):DvX:=⟨n,[],0,[],true,false,0,0⟩
def iY (x:DvX)(a:Int):Bool:=decide (0<=a/\a<x.n)
def J4 (x:DvX)(a:Int):Bs:=(fT x.es a).getD uO
def KM (es:List MpE)(ck:Nat)(w:Int × Bs):List MpE:=if w.2=uO then mP (eY es ck w.1 w.2) w.1 else eY es ck w.1 w.2
def kpC (es:List MpE)(ck:Nat)(w:Int × Bs):Nat:=zR es ck w.1
def bP (x:DvX)(w:Int × Bs):DvX:={ x with es:=KM x.es x.ck w,ck:=kpC x.es x.ck w }
theorem Mf {w:Int × Bs}(h:MpN es):MpN (KM es ck w):=by
 unfold KM;split
 ·exact a3h (WK h)
 exact WK h
theorem YM {x:DvX}{w:Int × Bs}(h:MpN x.es)(b:Int):J4 (bP x w) b=if b=w.1 then w.2 else J4 x b:=by
 unfold J4 bP KM;dsimp only;split
 ·rename_i hz;rw[Kt b (WK h),WL];by_cases hb:b=w.1
  ·rw[if_pos hb,if_pos hb,hz];rfl
  rw[if_neg hb,if_neg hb,if_neg hb]
 rw[WL];by_cases hb:b=w.1
 ·rw[if_pos hb,if_pos hb];rfl
 rw[if_neg hb,if_neg hb]
def eT (ws:List (Int × Bs))(a:Int):Option Bs:=(ws.reverse.find? λw=>decide (w.1=a)).map (·.2)
def bO (x:DvX)(a:Int):Bs:=(eT x.ws a).getD (J4 x a)
def gG (x:DvX)(w:Int × Bs):DvX:={ x with ws:=x.ws++[w] }
def aL (x:DvX):DvX:={ x.ws.foldl bP x with ws:=[] }
def fB (x:DvX):Bool:=!(x.ar&&decide (x.lf=0))
def L6 (x:DvX):DvX:={ x with lf:=if x.ar=true then x.lf-1 else x.lf,st:=IntKind.i64.wrap (x.st+1) }
def gH (x:DvX):DvX:={ x with on:=false }
def O7 (x:DvX)(a:Int)(s:Bs):DvX × Int:=
 if x.on=false then (x,14) else if iY x a=false\/s.length≠64 then (x,1)
 else if fB x=false then (gG (gH x) (a,s),14) else (gG (L6 x) (a,s),0)
def aB (x:DvX):DvX × Int:=if x.on=false then (x,14) else if fB x=false then (gH x,14) else (aL (L6 x),0)
def GN (x:DvX)(k:List Bool)(torn cut:Int)(i:Nat)(w:Int × Bs):DvX:=
 if k.getD i false=true then bP x (w.1,if (i:Int)=torn then w.2.take (min (max cut 0) 64).toNat++(J4 x w.1).drop (min (max cut 0) 64).toNat else w.2) else x
def ZH (k:List Bool)(torn cut:Int):Nat->DvX->List (Int × Bs)->DvX
 | _,x,[]=>x
 | i,x,w::ws=>ZH k torn cut (i+1) (GN x k torn cut i w) ws
def AP (x:DvX)(k:List Bool)(torn cut:Int):DvX:=if x.n=0 then x else { ZH k torn cut 0 x x.ws with ws:=[],on:=true,ar:=false }
end

section
variable {w:World}{es:List MpE}{a:Int}{K T V:TypeId}{ck g:Nat}{i x:Operand}{args:List AV}{ts:Array TypeId}{xs:List Operand}{f:FuncId}
abbrev wO (e:MpE):MapEntry:=⟨.int .i64 e.1,sv e.2.1,e.2.2⟩
abbrev dJ (es:List MpE)(ck:Nat):Obj:=.map (es.map wO).toArray ck
abbrev aA (g:Nat):AV:=.lit (.map (some g))
class TyMp (P:Program)(T:TypeId)(K V:outParam TypeId):Prop where
 out:P.underlying T=some (.map K V)
 key:P.underlying K=some (.int .i64)
 val:(P.info? V).map (·.zero)=some (some (sv []))
theorem Ql (a:Int):∀ (es:List MpE) (i:Nat),Instr.findNow (.int .i64) (.int .i64 a) (es.map wO) i=some (if bL es a<es.length then some (bL es a+i,sv ((fT es a).getD [])) else none)
 | [],i=>rfl
 | e::es,i=>by
  rw[List.map_cons];unfold Instr.findNow;have h1:Instr.sameNow (.int .i64) (.int .i64 a) (wO e).key=some (a == e.1):=by simp[Instr.sameNow]
  rw[h1,FJ,wN];by_cases h:e.1=a
  ·subst h;simp
  have h2:(a == e.1)=false:=by simpa using λh'=>h h'.symm
  rw[h2,if_neg h,if_neg h];dsimp only;rw[Ql a es (i+1)];by_cases hl:bL es a<es.length
  ·rw[if_pos hl,if_pos (by simpa using hl)];congr 3
   omega
  rw[if_neg hl,if_neg (by simpa using hl)]
theorem Ku:∀ {es:List MpE} {a:Int},(fT es a).isSome=decide (bL es a<es.length)
 | [],a=>rfl
 | e::es,a=>by
  rw[wN,FJ];by_cases h:e.1=a
  ·rw[if_pos h,if_pos h];simp
  rw[if_neg h,if_neg h,Ku];simp
section
variable {P:Program} {N:Nat} {ops:Array Oper} {Q:Exit->Act->World->Prop} {rest:List Oper} {s:Av.Base} {e:Av.Env} {m:List Av.Piece} {d:Nat} {ty:TypeId} {pos:String} {af:Array Edge}
theorem UK [t:TyMp P T K V]:(Instr.findKey K (.int .i64 a) (es.map wO)).run P w=.ok (if bL es a<es.length then some (bL es a,sv ((fT es a).getD [])) else none) w:=by
 unfold Instr.findKey;simp only[Sem.run_bind,run_underlying t.key,Result.andThen_ok,Ql,Nat.add_zero,Sem.run_pure]
theorem run_checkKey [t:TyMp P T K V]{b:Bool}:(Instr.checkKey b 10000 K (.int .i64 a)).run P w=.ok () w:=by
 unfold Instr.checkKey;simp only[Sem.run_bind,run_underlying t.key,Result.andThen_ok,Sem.run_pure]
theorem a3c [t:TyMp P T K V]:∃ i,P.info? V=some i/\i.zero=some (sv []):=by
 have:=t.val;cases h:P.info? V with
 | none=>rw[h] at this;cases this
 | some i=>
  rw[h] at this;exact⟨i,rfl,by simpa using this⟩
theorem a9y [t:TyMp P T K V](h:AL P N ops Q s rest ((d,.tup [str ((fT es a).getD []),d9 (fT es a).isSome])::e) m)(hx:ev e x=some (aA g):=by exact rfl)(hi:ev e i=some (int a):=by exact rfl)
  (hm:Has m (.obj g (dJ es ck)):=by (repeat (first|exact Av.Has.here|apply Av.Has.there))) (hd:Nat.blt d N=true:=by exact rfl):AL P N ops Q s (⟨some d,.lookup T x i true,ty,pos,af,none⟩::rest) e m:=
 dC (λok w A hS hA=>by
  obtain⟨ho,_⟩:=hS.at_ _ hm.mem;obtain⟨iz,q1,q2⟩:=a3c (P:=P) (T:=T);have h1:=UK (P:=P) (T:=T) (a:=a) (es:=es) (w:=w);have h2:=run_checkKey (P:=P) (T:=T) (a:=a) (b:=(es.map wO).toArray.isEmpty) (w:=w);have h3:=Ku (es:=es) (a:=a);refine⟨.tuple #[sv ((fT es a).getD []),.bool (fT es a).isSome],?_,⟨_,rfl,_,_,rfl,RV0.of_lit rfl,_,_,rfl,RV0.of_lit rfl,rfl⟩⟩;have hg:(getObj g).run P w=.ok (dJ es ck) w:=by simp[getObj,Sem.run,ho]
  simp only[execOp,hA.lit hx,hA.lit hi,Instr.lookup,Sem.run_bind,run_underlying t.out,Result.andThen_ok,hg,h2,Sem.run_pure];by_cases hl:bL es a<es.length
  ·rw[if_pos hl] at h1;rw[dT hl] at h3;rw[h3];simp[h1]
  rw[if_neg hl] at h1;rw[dZ hl] at h3;have h4:fT es a=none:=by simpa using h3
  rw[h4];simp[h1,zeroValue,typeInfo,q1,q2]) hd h
theorem Lg {α β:Type}(f:α->β):∀ (l:List α) (i:Nat),(l.eraseIdx i).map f=(l.map f).eraseIdx i
 | [],_=>rfl
 | _::_,0=>rfl
 | a::l,i+1=>by simp[Lg f l i]
theorem NL {o o':Obj}(ho:w.heap[g]?=some o)(hn:Obj.notCells o=true):(setObj g o').run P w=.ok () { w with heap:=w.heap.setIfInBounds g o' }:=by
 cases o <;> first|(simp[setObj,Sem.run,ho];done)|cases hn
theorem a9t [t:TyMp P T K V]{y:Operand}{b:Bs}{pre post:List Av.Piece}(h:AL P N ops Q s rest e (pre++.obj g (dJ (eY es ck a b) (zR es ck a))::post))(hm:m=pre++.obj g (dJ es ck)::post)(hx:ev e x=some (aA g):=by exact rfl)(hi:ev e i=some (int a):=by exact rfl)(hy:ev e y=some (str b):=by exact rfl) :
  AL P N ops Q s (⟨none,.mapUpdate T x i y,ty,pos,af,none⟩::rest) e m:=
 HV (λok w A hS hA=>by
  subst hm;obtain⟨ho,hno⟩:=hS.at_ (.obj g (dJ es ck)) sm;obtain⟨g1,g2⟩:=hS.setObj (o':=dJ (eY es ck a b) (zR es ck a)) rfl;have h1:=UK (P:=P) (T:=T) (a:=a) (es:=es) (w:=w);have h2:=run_checkKey (P:=P) (T:=T) (a:=a) (b:=false) (w:=w);have h3:=NL (P:=P) (o':=dJ (eY es ck a b) (zR es ck a)) ho hno;refine⟨_,ok,?_,g1,g2⟩;have hg:(getObj g).run P w=.ok (dJ es ck) w:=by simp[getObj,Sem.run,ho]
  simp only[execOp,hA.lit hx,hA.lit hi,hA.lit hy,Instr.mapUpdate,Sem.run_bind,run_underlying t.out,Result.andThen_ok,hg,h2,h1];by_cases hl:bL es a<es.length
  ·rw[if_pos hl];have h5:(es[bL es a]'hl).1=a:=of_decide_eq_true (List.findIdx_getElem (w:=hl));have h6:(es.map wO).modify (bL es a) (λe=>{ key:=.int .i64 a,val:=sv b,born:=e.born })=(eY es ck a b).map wO:=by
    apply List.ext_getElem
    ·simp[eY,hl]
    intro i hi1 hi2;simp[eY,hl,List.getElem_modify];split <;> rfl
   have h8:zR es ck a=ck:=if_pos hl;rw[h8] at h3 ⊢;simp[hl,h5,Instr.keyThatStays,Instr.sameBits,h6];rw[h3];rfl
  rw[if_neg hl];have h7:Obj.map ((es.map wO).toArray.push { key:=.int .i64 a,val:=sv b,born:=ck }) (ck+1)=dJ (eY es ck a b) (zR es ck a):=by
   unfold zR eY;rw[if_neg hl,if_neg hl];simp[dJ]
  simp only[h7,h3,Result.andThen_ok,Sem.run_pure]) h
theorem a9u {S:TypeId}[t:TyMp P T K V]{pre post:List Av.Piece}(h:AL P N ops Q s rest e (pre++.obj g (dJ (mP es a) ck)::post))(hm:m=pre++.obj g (dJ es ck)::post)(hx:ev e x=some (aA g):=by exact rfl)(hi:ev e i=some (int a):=by exact rfl) :
  AL P N ops Q s (⟨none,.call ⟨.builtin .delete,#[x,i],#[T,S]⟩,ty,pos,af,none⟩::rest) e m:=
 Wm (λok w A hS hA=>by
  subst hm;obtain⟨ho,hno⟩:=hS.at_ (.obj g (dJ es ck)) sm;obtain⟨g1,g2⟩:=hS.setObj (o':=dJ (mP es a) ck) rfl;have h1:=UK (P:=P) (T:=T) (a:=a) (es:=es) (w:=w);have h2:=run_checkKey (P:=P) (T:=T) (a:=a) (b:=(es.map wO).toArray.isEmpty) (w:=w);have h3:=NL (P:=P) (o':=dJ (mP es a) ck) ho hno;refine⟨.tuple #[],_,ok,?_,g1,g2⟩;have hg:(getObj g).run P w=.ok (dJ es ck) w:=by simp[getObj,Sem.run,ho]
  have hx':=hA.lit hx;have hi':=hA.lit hi;simp only[execOp,resolve,invoke,builtin,List.map_toArray,List.map_cons,List.map_nil,hx',hi',Builtin.delete_,List.getElem?_toArray,List.getElem?_cons_zero,List.getElem?_cons_succ,Sem.run_bind,run_underlying t.out,Result.andThen_ok,hg,h2,h1,Sem.run_pure];by_cases hl:bL es a<es.length
  ·rw[if_pos hl];have h7:Obj.map ((es.map wO).toArray.eraseIdxIfInBounds (bL es a)) ck=dJ (mP es a) ck:=by
    simp[dJ,mP,Array.eraseIdxIfInBounds,hl,Lg]
   simp only[h7,h3,Sem.run_bind,Result.andThen_ok,Sem.run_pure]
  rw[if_neg hl];have h7:mP es a=es:=List.eraseIdx_of_length_le om;rw[h7] at h3 ⊢;simp only[Sem.run_bind,h3,Result.andThen_ok,Sem.run_pure]) h
theorem a9w [TyMp P T K V](h:∀ g,AL P N ops Q s rest ((d,aA g)::e) (.obj g (dJ [] 0)::m))(hd:Nat.blt d N=true:=by exact rfl):AL P N ops Q s (⟨some d,.makeMap T none,ty,pos,af,none⟩::rest) e m:=
 kF (λok w A hS hA=>by
  obtain⟨ok',g1,g2⟩:=hS.newObj (o:=dJ [] 0) rfl;exact⟨_,.map (some w.heap.size),w.alloc (dJ [] 0),ok',_,by simp[execOp,Instr.makeMap,newObj,Sem.run];rfl,RVl rfl,g1,g2,h w.heap.size⟩) hd
theorem Ug {ok:Ok}{w:World}:∀ l:Bs,RCs ok w (l.map λc=>AV.lit (y5 c)) (l.map y5)
 | []=>by rw[List.map_nil,RCs];rfl
 | c::l=>by
  rw[List.map_cons,RCs];exact⟨[y5 c],l.map y5,rfl,by rw[RC];exact⟨rfl,rfl⟩,Ug l⟩
theorem MB {E:TypeId}[t:TyE P T E 1 1][tz:TyO P E (.lit (y5 0))]{y:Operand}{q:Int}(h:AL P N ops Q s rest ((d,.sl 1 ((List.replicate q.toNat (0:UInt8)).map λc=>.lit (y5 c)) none)::e) m)
  (hx:ev e x=some (int q):=by exact rfl) (hy:ev e y=some (int q):=by exact rfl) (hq:0<=q/\q<=1048576:=by first|omega|decide) (hd:Nat.blt d N=true:=by exact rfl):AL P N ops Q s (⟨some d,.makeSlice T x y,ty,pos,af,none⟩::rest) e m:=by
 refine wY (v:=.sl 1 ((List.replicate q.toNat (0:UInt8)).map λc=>.lit (y5 c)) none) (λok w A hS hA=>?_) hd;obtain⟨i,z,q1,q2,hzk,hik,hib⟩:=t.zero;have e1:=tz.out;rw[q1,show dV 8 (.lit (y5 0))=some [y5 0] from rfl] at e1;have e2:z.cells.toList=[y5 0]/\vN z=false:=by simpa[q2,AV.isAgg] using e1
 have hz1:z=y5 0:=by
  have:=DK e2.2;rw[this] at e2;simpa using e2.1
 subst hz1;have hn:((q.toNat:Nat):Int)=q:=by omega
 have hr:=run_make_row (P:=P) T E i (y5 0) t.l.out q1 q2 hik rfl .i64 .i64 q.toNat (by rw[hib];omega) om w;rw[hn] at hr;have hE:=Ext.alloc w (.cells (madeCells #[y5 0] q.toNat) E);have hblk:(w.alloc (.cells (madeCells #[y5 0] q.toNat) E)).heap[w.heap.size]?=some (.cells (madeCells #[y5 0] q.toNat) E (0,0)):=heap_alloc_new w _;have hcl:(madeCells #[y5 0] q.toNat).toList=(List.replicate q.toNat (0:UInt8)).map y5:=by
  apply List.ext_getElem
  ·simp[madeCells]
  intro j h1 h2;simp[madeCells,Nat.mod_one]
 refine⟨.slice (some ⟨w.heap.size,0,none⟩) q.toNat q.toNat,_,ok,m,by simp[execOp,hA.lit hx,hA.lit hy,hr],?_,hS.ext hE,Ext.astp hE ok,h⟩;refine RV.sl sm sm (Nat.le_refl _) (by simp only[maxLen];omega) (λhp=>⟨w.heap.size,0,(List.replicate q.toNat (0:UInt8)).map y5,rfl,sm,λj v hj=>?_,Ug _⟩) (λx hx=>by
  obtain⟨c,_,rfl⟩:=List.mem_map.1 hx;rfl)
 rw[Nat.zero_add,cell_of_row _ _ _ _ _ _ hblk];refine⟨?_,hS.fresh _ _ (Nat.le_refl _)⟩;rw[<- hcl] at hj;simpa using hj
theorem iN [hf:FnB P f](pre m1 post:List Av.Piece){K:AV->List Av.Piece->Prop}{gl:List (Nat × AV)}(hc:Av.Spec P gl f args m1 K)(h:∀ v m1',K v m1'->AL P N ops Q s rest ((d,v)::e) (pre++(m1'++post)))
  (hm:m=pre++(m1++post):=by exact rfl) (hg:s.gl=gl:=by assumption) (hx:evs e xs=some args:=by exact rfl) (hn:args.all U8=true:=by exact rfl) (hd:Nat.blt d N=true:=by exact rfl):AL P N ops Q s (⟨some d,.call ⟨.value (.func f),xs.toArray,ts⟩,ty,pos,af,none⟩::rest) e m:=by
 subst hm hg;refine H6 m1 (pre++post) hc (λv m1' hk=>?_) (List.perm_append_comm_assoc _ _ _) hx hn hd;exact fF (λok w hS=>hS.perm (List.perm_append_comm_assoc _ _ _)) (h v m1' hk)
theorem Bf [hf:FnB P f](pre m1:List Av.Piece){K:AV->List Av.Piece->Prop}{gl:List (Nat × AV)}(hc:Av.Spec P gl f args m1 K)(h:∀ v m1',K v m1'->AL P N ops Q s rest ((d,v)::e) (pre++m1'))
  (hm:m=pre++m1:=by exact rfl) (hg:s.gl=gl:=by assumption) (hx:evs e xs=some args:=by exact rfl) (hn:args.all U8=true:=by exact rfl) (hd:Nat.blt d N=true:=by exact rfl):AL P N ops Q s (⟨some d,.call ⟨.value (.func f),xs.toArray,ts⟩,ty,pos,af,none⟩::rest) e m:=by
 subst hm hg;refine H6 m1 pre hc (λv m1' hk=>?_) List.perm_append_comm hx hn hd;exact fF (λok w hS=>hS.perm List.perm_append_comm) (h v m1' hk)
theorem BD [hf:FnB P f]{cs:List Value}{K:AV->List Av.Piece->Prop}{gl:List (Nat × AV)}(hc:Av.Spec P gl f (args++cs.map .lit) m K)(h:∀ v m1',K v m1'->AL P N ops Q s rest ((d,v)::e) m1')
  (hg:s.gl=gl:=by assumption) (h0:ev e x=some (E5 f cs):=by exact rfl) (hx:evs e xs=some args:=by exact rfl) (hn:args.all U8=true:=by exact rfl) (hcs:∀ v∈cs,v.oneCell'=true:=by simp[Value.oneCell']) (hd:Nat.blt d N=true:=by exact rfl) :
  AL P N ops Q s (⟨some d,.call ⟨.value x,xs.toArray,ts⟩,ty,pos,af,none⟩::rest) e m:=by
 subst hg;refine gU m [] hc (λv m1' hk=>?_) sm h0 hx hn hcs hd;rw[List.append_nil];exact h v m1' hk
theorem R7 [hf:FnB P f]{K:AV->List Av.Piece->Prop}{gl:List (Nat × AV)}(hc:Av.Spec P gl f args m K)(h:∀ v m1',K v m1'->AL P N ops Q s rest ((d,v)::e) m1')
  (hg:s.gl=gl:=by assumption) (hx:evs e xs=some args:=by exact rfl) (hn:args.all U8=true:=by exact rfl) (hd:Nat.blt d N=true:=by exact rfl):AL P N ops Q s (⟨some d,.call ⟨.value (.func f),xs.toArray,ts⟩,ty,pos,af,none⟩::rest) e m:=by
 subst hg;refine H6 m [] hc (λv m1' hk=>?_) sm hx hn hd;rw[List.append_nil];exact h v m1' hk
theorem Vx {l:List Oper}(A B:List Av.Piece)(h:AL P N ops Q s l e (B++A))(hm:m=A++B:=by exact rfl):AL P N ops Q s l e m:=by
 subst hm;exact fF (λok w hS=>hS.perm List.perm_append_comm) h
theorem dW {x:Exit}(m' l:List Av.Piece)(h:AE N x Q s e m')(hp:m'.Perm l)(hm:l.Sublist m):AE N x Q s e m:=wB (λ_ _ hS=>(hS.less hm).perm hp) h
theorem Ay {l':List Oper}(m' l:List Av.Piece)(h:AL P N ops Q s l' e m')(hp:m'.Perm l)(hm:l.Sublist m):AL P N ops Q s l' e m:=fF (λ_ _ hS=>(hS.less hm).perm hp) h
theorem MH {c:Code}(m' l:List Av.Piece)(h:AC P N c Q s e m')(hp:m'.Perm l)(hm:l.Sublist m):AC P N c Q s e m:=P6 (λ_ _ hS=>(hS.less hm).perm hp) h
end
end

def aF (n:Nat):Bs:=(K7 n 8).reverse
def uC (s:Bs):Nat:=O3 s.reverse
theorem DU (n:Nat):(aF n).length=8:=by simp[aF,dP]
theorem KF {n:Nat}(h:n<18446744073709551616):uC (aF n)=n:=by
 rw[uC,aF,List.reverse_reverse,KL];exact Nat.mod_eq_of_lt h
structure MkX where
 e:Int
 b:Int
 c:Int
deriving DecidableEq
def lI:MkX:=⟨0,0,0⟩
def MN:Bs:=List.replicate 32 0
def M8 (m:MkX):Bs:=aF m.e.toNat++aF m.b.toNat++aF m.c.toNat++MN++aF m.e.toNat
def vG (s:Bs):MkX:=⟨uC (s.take 8),uC ((s.drop 8).take 8),uC ((s.drop 16).take 8)⟩
def OZ (m:MkX):Bool:=decide (m.e<=1099511627776/\m.b<=1099511627776/\m.c<=1099511627776)
def X6 (s:Bs):Option MkX:=if s.length=64/\OZ (vG s)=true/\M8 (vG s)=s then some (vG s) else none
def vK (a b:Bs):MkX:=if ((X6 a).getD lI).e<((X6 b).getD lI).e then (X6 b).getD lI else (X6 a).getD lI
structure MkB (m:MkX):Prop where
 e:0<=m.e/\m.e<=1099511627776
 b:0<=m.b/\m.b<=1099511627776
 c:0<=m.c/\m.c<=1099511627776
theorem KA (m:MkX):(M8 m).length=64:=by
 unfold M8 MN;simp[DU]
theorem JZ (m:MkX):(M8 m).take 8=aF m.e.toNat/\((M8 m).drop 8).take 8=aF m.b.toNat/\((M8 m).drop 16).take 8=aF m.c.toNat/\(M8 m).drop 56=aF m.e.toNat:=by
 have h1:=DU m.e.toNat;have h2:=DU m.b.toNat;have h3:=DU m.c.toNat;have hz:MN.length=32:=by simp[MN]
 unfold M8;generalize aF m.e.toNat=A at *;generalize aF m.b.toNat=B at *;generalize aF m.c.toNat=C at *;refine⟨?_,?_,?_,?_⟩
 ·rw[laa,laa,laa,List.take_left' h1]
 ·rw[laa,laa,laa,List.drop_left' h1,List.take_left' h2]
 ·rw[laa,laa,List.drop_left' (by rw[lla];omega),List.take_left' h3]
 rw[List.drop_left' (by simp only[List.length_append];omega)]
theorem a1K {m:MkX}(h:MkB m):vG (M8 m)=m:=by
 obtain⟨a,b,c,_⟩:=JZ m;unfold vG;rw[a,b,c,KF (by have:=h.e;omega),KF (by have:=h.b;omega),KF (by have:=h.c;omega)];have h1:((m.e.toNat:Nat):Int)=m.e:=by have:=h.e;omega
 have h2:((m.b.toNat:Nat):Int)=m.b:=by have:=h.b;omega
 have h3:((m.c.toNat:Nat):Int)=m.c:=by have:=h.c;omega
 rw[h1,h2,h3]
theorem Yy {m:MkX}(h:MkB m):X6 (M8 m)=some m:=by
 unfold X6;rw[a1K h,if_pos ⟨KA m,dT ⟨h.e.2,h.b.2,h.c.2⟩,rfl⟩]
theorem Zb {s:Bs}{m:MkX}(h:X6 s=some m):M8 m=s:=by
 unfold X6 at h;split at h
 ·rename_i hh;injection h with h
  rw[<- h];exact hh.2.2
 cases h

def xG (q:Nat × Nat)(c:UInt8):Nat × Nat:=((q.1+c.toNat)%65521,(q.2+(q.1+c.toNat)%65521)%65521)
def qK (s:Bs):Nat × Nat:=s.foldl xG (1,0)
def iA (s:Bs):Int:=((qK s).2*65536+(qK s).1:Nat)
theorem UD (s:Bs):(qK s).1<65521/\(qK s).2<65521:=by
 unfold qK
 suffices h:∀ (s:Bs) (q:Nat × Nat),q.1<65521/\q.2<65521->(s.foldl xG q).1<65521/\(s.foldl xG q).2<65521 from h s _ dc
 intro s
 induction s with
 | nil=>exact λq h=>h
 | cons c s ih=>exact λq _=>ih _ ⟨Nat.mod_lt _ dc,Nat.mod_lt _ dc⟩
theorem UC (s:Bs):0<=iA s/\iA s<=4294967295:=by
 have:=UD s;unfold iA;omega
def D9 (s:Bs):Bs:=r9 82 s++D7 83 (iA (r9 82 s))
def Z7 (s:Bs):Bs:=o8 82 1048576 s false
def bZ (s:Bs):Bool:=F4 82 1048576 s false
def bY (s:Bs):Bs:=G9 82 1048576 s false
def kP (s:Bs):Bs:=o8 83 8 (Z7 s) (bZ s)
def BM (s:Bs):Bool:=N9 83 4294967295 (Z7 s) (bZ s)
def BN (s:Bs):Int:=L9 83 4294967295 (Z7 s) (bZ s)
def jD (s:Bs):Bool:=!BM s&&decide (BN s=iA (s.take (s.length-(Z7 s).length)))
theorem a1H (s:Bs):4<=(D9 s).length:=by
 unfold D9;rw[lla];have:4<=(r9 82 s).length:=by
  unfold r9 uR;simp
 omega
theorem Zn {s r:Bs}(h:s.length<=1048576):jD (D9 s++r)=true/\bY (D9 s++r)=s/\kP (D9 s++r)=r:=by
 obtain⟨a1,a2,a3⟩:=vF (c:=82) (most:=1048576) (s:=s) (r:=D7 83 (iA (r9 82 s))++r) dc dc om om;have e:D9 s++r=r9 82 s++(D7 83 (iA (r9 82 s))++r):=by unfold D9;rw[laa]
 have hs:=UC (r9 82 s);obtain⟨b1,b2,b3⟩:=tX (c:=83) (most:=4294967295) (n:=iA (r9 82 s)) (r:=r) dc dc hs.1 hs.2 dc;have hA:Z7 (D9 s++r)=D7 83 (iA (r9 82 s))++r:=by unfold Z7;rw[e,a2]
 have hB:bZ (D9 s++r)=false:=by unfold bZ;rw[e,a3]
 refine⟨?_,by unfold bY;rw[e,a1],by unfold kP;rw[hA,hB,b2]⟩;unfold jD BM BN;rw[hA,hB,b1,b3,e,lla,Nat.add_sub_cancel,List.take_left']
 ·rw[dT rfl];rfl
 rfl
theorem Zp {s:Bs}(h:jD s=true):(kP s).length<s.length:=by
 unfold jD at h;rw[bet,Bool.not_eq_true'] at h;have hb:bZ s=false:=by
  cases e:bZ s with
  | false=>rfl
  | true=>
   have:=h.1;unfold BM N9 at this;rw[e] at this;simp[qO,F4,zL] at this
 have h1:=UM (c:=82) (most:=1048576) (s:=s) (b:=false) hb;have h2:=(aH 83 8 (Z7 s) (bZ s)).1;show (o8 83 8 (Z7 s) (bZ s)).length<s.length;have:(Z7 s).length<s.length:=h1;omega
def pU:Nat->Bs->List Bs × Bs
 | 0,s=>([],s)
 | f+1,s=>if jD s=true then (bY s::(pU f (kP s)).1,(pU f (kP s)).2) else ([],s)
def pR (s:Bs):List Bs:=(pU (s.length+1) s).1
def BG (s:Bs):Bs:=(pU (s.length+1) s).2
def M4 (l:List Bs):Bs:=l.flatMap D9
theorem Zo:jD []=false:=by kernel_rfl
theorem Xf:∀ (l:List Bs) (f:Nat),l.length<f->(∀ s∈l,s.length<=1048576)->pU f (M4 l)=(l,[])
 | [],f,hf,_=>by
  rcases f with _|f
  ·omega
  show (if jD []=true then _ else _)=_;rw[Zo];rfl
 | s::l,f,hf,h=>by
  rcases f with _|f
  ·omega
  have e:M4 (s::l)=D9 s++M4 l:=rfl;obtain⟨a,b,c⟩:=Zn (s:=s) (r:=M4 l) (h s sm);have ih:=Xf l f (by simp at hf;omega) (λt ht=>h t (by simp[ht]));rw[e,pU,a,b,c,ih];rfl
theorem Li (l:List Bs):l.length<=(M4 l).length:=by
 induction l with
 | nil=>exact Nat.zero_le _
 | cons s l ih=>
  have e:M4 (s::l)=D9 s++M4 l:=rfl;have:=a1H s;rw[e,lla,List.length_cons];omega
theorem Wi {l:List Bs}(h:∀ s∈l,s.length<=1048576):pR (M4 l)=l/\BG (M4 l)=[]:=by
 have:=Xf l ((M4 l).length+1) (Nat.lt_succ_of_le (Li l)) h;unfold pR BG;rw[this];exact⟨rfl,rfl⟩
end Go.Proofs.Z
