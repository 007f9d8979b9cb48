/- . -/
import Derived.Test.YtocpacdnjbjjmaaGreatDoorS39
set_option maxHeartbeats 64000000
namespace Go.Proofs.YtocpacdnjbjjmaaGreatDoor
open Go Go.RowKit Tw Av Go.Proofs.Tryz
attribute [local irreducible] V6 O0
theorem a3j {e:Int}:Imp (I8 [.agg 4 [.lit (.slice none 0 0),.agg 3 [int e,.lit (.int .i64 0),str []]]]) (qA (fQ e)):=(inferInstance:ImpR (.agg 4 [.lit (.slice none 0 0),.agg 3 [int e,.lit (.int .i64 0),str []]]) (.agg 4 [.sl 2 [] none,.agg 3 [int e,int 0,str []]])).imp
instance b6H {e:Int}:Ans prog GL 144 [int e] True (qA (fQ e)):=⟨fun _=>by
 refine qE func144 rfl ntmps144 rfl (fun _ hs=>?_);repeat' first|refine Zz ?_|intro _
 refine E9 ?_;exact a3j⟩
instance b6D {d:List Ent}{k v:Bs}{xs:List AV}{id:Option Value}[hx:Ents xs d]:Ans prog GL 196 [.sl 2 xs id,str k,str v] (DOk d) (qA (pQ d k v)):=⟨fun hd=>by
 refine qE func196 rfl ntmps196 rfl (fun _ hs=>?_);repeat' first|refine Zz ?_|intro _
 unfold pQ;by_cases h:(U2 d k v).2=0
 ·rw[if_pos h,dZ (nni h)];repeat' first|refine Zz ?_|intro _
  refine d9 ?_;rfl
 ·rw[if_neg h,dT h];repeat' first|refine Zz ?_|intro _
  refine d9 ?_;rfl⟩
instance b6J {d:List Ent}{x:TxX}{xs:List AV}{id:Option Value}[hx:Ents xs d]:Ans prog GL 137 [.sl 2 xs id,U0 x] (DOk d/\TxB x) (qA (lT d x)):=⟨fun hp=>by
 obtain⟨hd,hb⟩:=hp;have b1:=hb.d;have b2:=hb.f;have b3:=hb.g;refine qE func137 rfl ntmps137 rfl (fun _ hs=>?_);repeat' first|refine Zz ?_|intro _
 unfold lT;cases h1:W9 x.x.d
 ·rw[if_pos (.inl rfl)];repeat' first|refine Zz ?_|intro _
  refine d9 ?_;rfl
 cases h2:Y3 x.x.g
 ·rw[if_pos (.inr (.inl rfl))];repeat' first|refine Zz ?_|intro _
  refine d9 ?_;rfl
 repeat' first|refine Zz ?_|intro _
 by_cases h3:x.k=1
 ·have h3':¬ x.k=2:=om
  rw[if_pos h3,dT h3];repeat' first|refine Zz ?_|intro _
  by_cases h4:0<iK x.x.d
  ·rw[if_pos (.inr (.inr (.inl ⟨h3,h4⟩))),dT (show (0:Int)<((iK x.x.d:Nat):Int) by omega)];repeat' first|refine Zz ?_|intro _
   refine d9 ?_;rfl
  ·rw[if_neg (show ¬ (true=false\/true=false\/(x.k=1/\0<iK x.x.d)\/(x.k=2/\Y3 x.x.f=false)) by simp[h4,h3']),dZ (show ¬ (0:Int)<((iK x.x.d:Nat):Int) by omega)];repeat' first|refine Zz ?_|intro _
   rw[dZ h3'];repeat' first|refine Zz ?_|intro _
   refine d9 ?_;rfl
 ·rw[if_neg h3,dZ h3];repeat' first|refine Zz ?_|intro _
  by_cases h5:x.k=2
  ·rw[dT h5];repeat' first|refine Zz ?_|intro _
   cases h6:Y3 x.x.f
   ·rw[if_pos (.inr (.inr (.inr ⟨h5,rfl⟩)))];repeat' first|refine Zz ?_|intro _
    refine d9 ?_;rfl
   ·rw[if_neg (show ¬ (true=false\/true=false\/(x.k=1/\0<iK x.x.d)\/(x.k=2/\true=false)) by simp[h3])];repeat' first|refine Zz ?_|intro _
    refine d9 ?_;rfl
  ·rw[if_neg (show ¬ (true=false\/true=false\/(x.k=1/\0<iK x.x.d)\/(x.k=2/\Y3 x.x.f=false)) by simp[h3,h5]),dZ h5];repeat' first|refine Zz ?_|intro _
   refine d9 ?_;rfl⟩
instance b6K {d:List Ent}{t:Int}{x:TxX}{xs:List AV}{id:Option Value}[hx:Ents xs d]:Ans prog GL 138 [.sl 2 xs id,U0 x,int t] (DOk d/\TxB x) (qA (CJ d x t)):=⟨fun hp=>by
 obtain⟨hd,hb⟩:=hp;have b1:=hb.i;have b2:=hb.hh;have b3:=hb.ht;have hF:=VX d x.i;have q1:CliOk (aA d x.i)/\(Rise (aA d x.i).l/\(aA d x.i).l.length<=32)/\x.h.h<=9223372036854775807/\x.h.t<=9223372036854775807:=⟨hF.ok,⟨hF.r,hF.n⟩,b2,b3⟩;have hw:CliW (BD x.y x.e x.h):=by
  unfold BD;split
  ·rename_i h;exact(Fh h).w
  ·exact PE.w
 have hw2:CliW (jR (aA d x.i) x.h x.m t):=Wi hF b2 b3;refine qE func138 rfl ntmps138 rfl (fun _ hs=>?_);repeat' first|refine Zz ?_|intro _
 unfold CJ;by_cases h1:x.k=4
 ·rw[if_pos h1,dT h1];repeat' first|refine Zz ?_|intro _
  cases h2:V6 d x.i
  ·rw[if_pos rfl];repeat' first|refine Zz ?_|intro _
   refine d9 ?_;rfl
  rw[if_neg (show ¬ true=false by decide)];repeat' first|refine Zz ?_|intro _
  by_cases h3:fA (aA d x.i) x.h x.m t=0
  rotate_left
  ·rw[if_pos h3,dT h3];repeat' first|refine Zz ?_|intro _
   refine d9 ?_;rfl
  rw[if_neg (nni h3),dZ (nni h3)];repeat' first|refine Zz ?_|intro _
  refine d9 ?_;rfl
 rw[if_neg h1,dZ h1];repeat' first|refine Zz ?_|intro _
 cases h2:H9 x.i
 ·rw[if_pos rfl];repeat' first|refine Zz ?_|intro _
  refine d9 ?_;rfl
 rw[if_neg (show ¬ true=false by decide)];repeat' first|refine Zz ?_|intro _
 cases h3:V6 d x.i;rotate_left
 ·rw[if_pos rfl];repeat' first|refine Zz ?_|intro _
  refine d9 ?_;rfl
 rw[if_neg (show ¬ false=true by decide)];repeat' first|refine Zz ?_|intro _
 by_cases h4:xO x.y x.e x.h=0
 rotate_left
 ·rw[if_pos h4,dT h4];repeat' first|refine Zz ?_|intro _
  refine d9 ?_;rfl
 rw[if_neg (nni h4),dZ (nni h4)];repeat' first|refine Zz ?_|intro _
 refine d9 ?_;rfl⟩
end Go.Proofs.YtocpacdnjbjjmaaGreatDoor

namespace Go.Proofs.YtocpacdnjbjjmaaGreatDoor
open Go Go.RowKit Tw Av Go.Proofs.Tryz
attribute [local irreducible] V6 O0 jH lT CJ J5 U7 F8 gV ZM
def yN (h t:Int)(l:List Bs):Bs:=D8 104 h++D8 116 t++O7 120 l
instance b8J {h t:Int}{l:List Bs}{xs:List AV}{id:Option Value}[hx:Strs xs l]:Ans prog GL 44 [.agg 3 [int h,int t,.sl 1 xs id]] ((h<=9223372036854775807/\t<=9223372036854775807)/\l.length<=8000000) (str (yN h t l)):=⟨fun hp=>by
 obtain⟨⟨h1,h2⟩,h3⟩:=hp;refine qE func44 rfl ntmps44 rfl (fun _ hs=>?_);repeat' first|refine Zz ?_|intro _
 refine d9 ?_;rfl⟩
def Sc:Bs:=D8 116 0++O7 120 [[120]]
def Sb:Bs:=O7 120 [[120]]
attribute [local irreducible] yN Sc Sb
end Go.Proofs.YtocpacdnjbjjmaaGreatDoor

namespace Go.Proofs.YtocpacdnjbjjmaaGreatDoor
open Go Go.RowKit Tw Av Go.Proofs.Tryz
def K20 (k:Int):Prop:=k=1\/k=2
theorem a4H {d:List Ent}{h t:Int}{x:TxX}:Ans prog GL 134 [.agg 1 [.sl 2 (d.map C8) none],U0 x,int h,int t] (DOk d/\TxB x/\K20 x.k) (.tup [dA (E5 d x h t).1,J6 (E5 d x h t).2]):=⟨fun hp=>by
 obtain⟨hd,hb,hk⟩:=hp;have hq:DOk d/\TxB x:=⟨hd,hb⟩;refine qE func134 rfl ntmps134 rfl (fun _ hs=>?_);repeat' first|refine Zz ?_|intro _
 rcases hk with h|h
 ·rw[h,Nt,VL h];repeat' first|refine Zz ?_|intro _
  refine Qm kr ?_;repeat' first|refine Zz ?_|intro _
  refine d9 ?_;rfl
 ·rw[h,Ns,VK h];repeat' first|refine Zz ?_|intro _
  refine Qm kr ?_;repeat' first|refine Zz ?_|intro _
  refine d9 ?_;rfl⟩

structure BkG (b:BlkX):Prop where
 h:1<=b.h/\b.h<=1099511627776
 t:0<=b.t/\b.t<=1099511627776
 l:b.x.length<=16
 s:∀ s∈b.x,s.length<=6000
def K5 (b:BlkX):Bs:=yN b.h b.t b.x
instance (priority:=high) b8I {h t:Int}{l:List Bs}{xs:List AV}{id:Option Value}[hx:Strs xs l]:Ans prog GL 75 [.agg 3 [int h,int t,.sl 1 xs id]] (BkG ⟨h,t,l⟩) (int 0):=⟨fun hp=>by
 obtain⟨hh,ht,hl,hs6⟩:=hp;dsimp only at hh ht hl hs6;have h:=hx.out;subst h;have hm:(l.map str).length=l.length:=llm _;refine qE func75 rfl ntmps75 rfl (fun _ hs=>?_);repeat' first|refine Zz ?_|intro _
 rename_i g1;refine z8 (α:=Nat) (fun i=>[(2,.lit (.int .i64 0)),(28,.sl 1 (l.map str) id),(29,int (l.map str).length),(30,int i)]) (fun i=>[])
  (fun i=>i<=l.length) (fun i=>l.length-i) 0 ⟨rfl,rfl,rfl,rfl,trivial⟩ (List.nil_sublist _) (Nat.zero_le _) ?_
 intro i hi;by_cases hil:i<l.length
 ·have h6:=hs6 _ (List.getElem_mem hil);repeat' first|refine Zz ?_|intro _
  refine o6 (i+1) ⟨rfl,rfl,rfl,rfl,trivial⟩ (List.nil_sublist _) hil om
 ·repeat' first|refine Zz ?_|intro _
  refine d9 ?_;rfl⟩
theorem bk_rd {b:BlkX}(h:BkG b):J8 104 1099511627776 (K5 b) false=b.h/\K3 104 1099511627776 (K5 b) false=false/\j5 104 8 (K5 b) false=D8 116 b.t++O7 120 b.x:=by
 have e:K5 b=D8 104 b.h++(D8 116 b.t++O7 120 b.x):=by unfold K5 yN;rw[laa]
 obtain⟨h1,h2,h3⟩:=xJ (c:=104) (most:=1099511627776) (n:=b.h) (r:=D8 116 b.t++O7 120 b.x) dc dc (by have:=h.h;omega) h.h.2 dc;rw[e];exact⟨h1,h3,h2⟩
theorem Oj {b:BlkX}(h:BkG b):J8 116 1099511627776 (D8 116 b.t++O7 120 b.x) false=b.t/\K3 116 1099511627776 (D8 116 b.t++O7 120 b.x) false=false/\j5 116 8 (D8 116 b.t++O7 120 b.x) false=O7 120 b.x:=by
 obtain⟨h1,h2,h3⟩:=xJ (c:=116) (most:=1099511627776) (n:=b.t) (r:=O7 120 b.x) dc dc h.t.1 h.t.2 dc;exact⟨h1,h3,h2⟩
theorem Oi {b:BlkX}(h:BkG b):fG 120 16 6000 (O7 120 b.x) false=b.x/\aY 120 16 6000 (O7 120 b.x) false=false/\j5 120 16777215 (O7 120 b.x) false=[]:=by
 have hl:=h.l;have hf:=GR (c:=120) (n:=6000) (l:=b.x) h.s dc;obtain⟨h1,h2,h3⟩:=RO (c:=120) (many:=16) (most:=6000) (l:=b.x) (r:=[]) dc dc om (fun s hs=>by have:=h.s s hs;omega) om;rw[List.append_nil] at h1 h2 h3;exact⟨h1,h3,h2⟩
theorem Om (b:BlkX):(K5 b).length<=50331657:=by
 unfold K5 yN;exact LenLe.out
instance b8F {b:BlkX}:Ans prog GL 33 [str (K5 b)] (BkG b) (.tup [.agg 3 [int b.h,int b.t,.sl 1 (b.x.map str) none],int 0]):=⟨fun hb=>by
 have hp:BkG ⟨b.h,b.t,b.x⟩:=hb;have hl:=Om b;obtain⟨e1,e2,e3⟩:=bk_rd hb;obtain⟨f1,f2,f3⟩:=Oj hb;obtain⟨k1,k2,k3⟩:=Oi hb;have l1:(D8 116 b.t++O7 120 b.x).length<=1000000000:=Nat.le_trans LenLe.out dc;have l2:(O7 120 b.x).length<=1000000000:=Nat.le_trans LenLe.out dc;generalize hS:K5 b=S at *;generalize hS1:D8 116 b.t++O7 120 b.x=S1 at *;generalize hS2:O7 120 b.x=S2 at *;refine qE func33 rfl ntmps33 rfl (fun _ hs=>?_);repeat' first|refine Zz ?_|intro _
 refine M3 (args:=[str S]) [] _ (by rw[hs];exact rY) (fun u m1 hh=>?_) lpr;obtain⟨gr,rfl,rfl⟩:=hh;repeat' first|refine Zz ?_|intro _
 rw[e1,e2,e3];repeat' first|refine Zz ?_|intro _
 rw[f1,f2,f3];repeat' first|refine Zz ?_|intro _
 rw[k1,k2,k3,show P5 [] false=0 from rfl];repeat' first|refine Zz ?_|intro _
 refine d9 ?_;rfl⟩
def Tx20 (s:Bs):Prop:=s.length<=6000/\(U7 (F8 s)=0->K20 (J5 (F8 s)).k)
theorem YO {d:List Ent}{l:List Bs}(hd:DOk d)(hl:l.length<=16)(h:∀ s∈l,Tx20 s):DOk d/\l.length<=1000000/\∀ s∈l,s.length<=1000000000/\(U7 (F8 s)=0->K20 (J5 (F8 s)).k):=
 ⟨hd,om,fun s hs=>⟨Nat.le_trans (h s hs).1 dc,(h s hs).2⟩⟩
instance (priority:=high) b8E {d:List Ent}{l:List Bs}{h t:Int}{xs ys:List AV}{id:Option Value}[hx:Ents xs d][hy:Strs ys l]:Ans prog GL 76 [.agg 1 [.sl 2 xs none],.agg 3 [int h,int t,.sl 1 ys id]] (DOk d/\l.length<=1000000/\∀ s∈l,s.length<=1000000000/\(U7 (F8 s)=0->K20 (J5 (F8 s)).k))
   (.tup [dA (M7 d ⟨h,t,l⟩).1,.sl 3 ((M7 d ⟨h,t,l⟩).2.1.map J6) none,.sl 15 ((M7 d ⟨h,t,l⟩).2.2.map V9) none]):=a4L (K:=K20) a4H
def xF (d:List Ent):Hsh:=rW d.length (oN (d.map aI))
instance b8G {c:Bs}{h t:Int}{d:List Ent}{xs ys:List AV}{id:Option Value}[hx:Ents xs d]:Ans prog GL 77 [str c,.agg 3 [int h,int t,.sl 1 ys id],.agg 1 [.sl 2 xs none]] (d.length<=1000000) (jK ⟨c,h,t,xF d⟩):=⟨fun hl=>by
 have e:=hx.out;subst e;refine qE func77 rfl ntmps77 rfl (fun _ hs=>?_);repeat' first|refine Zz ?_|intro _
 refine d9 ?_;rfl⟩

theorem a5h (l r:Bs):I5 (I5 l++r)=I5 (l++r):=by
 have h1:l++r=l.take (l.length-l.length%64)++(I5 l++r):=by
  unfold I5;rw[<- laa,List.take_append_drop]
 have h2:(l.take (l.length-l.length%64)).length=l.length-l.length%64:=by
  rw[List.length_take];omega
 rw[h1];generalize I5 l++r=B;generalize l.take (l.length-l.length%64)=A at *;unfold I5;have h3:(A++B).length-(A++B).length%64=A.length+(B.length-B.length%64):=by
  rw[lla];omega
 rw[h3,<- List.drop_drop,List.drop_left]
theorem a5g (l:Bs):(I5 l).length<64:=by
 unfold I5;rw[List.length_drop];omega
theorem a1a (D:List Av.Piece)(a b c:Av.Piece):(D++[b,a,c]).Perm (a::b::(D++[c])):=(List.perm_middle.trans (List.perm_middle.cons b)).trans (List.Perm.swap a b _)
theorem a4b {I:SlI}{x:DvX}{s:SlX}{r:Bs}(hx:DvOk x)(hw:x.ws.length<=1000)(he:0<=s.m.e/\s.m.e<=1000000)(hb:0<=s.m.b/\s.m.b<=1000000)(hc:0<=s.m.c/\s.m.c<=1000000)(hbr:s.br=false) :
  Av.Spec prog GL 43 [ptr I.gs,str r] (N7 I x s) fun u m=>u=int (fK x s r).2.2/\∃ v,m=N7 { I with vw:=v } (fK x s r).1 (fK x s r).2.1:=by
 have hn:=hx.n;have hrm:M0 x.n=(x.n-2)*64:=rfl;refine qE func43 rfl ntmps43 rfl (fun _ hs=>?_);repeat' first|refine Zz ?_|intro _
 rw[hbr];repeat' first|refine Zz ?_|intro _
 unfold fK;rw[if_neg (by rw[hbr];decide)];by_cases h1:1048576<r.length
 ·rw[if_pos h1,if_pos h1,if_pos h1];repeat' first|refine Zz ?_|intro _
  refine o5 (N7 I x s) ⟨rfl,I.vw,rfl⟩ ?_;exact r9
 rw[if_neg h1,if_neg h1,if_neg h1];repeat' first|refine Zz ?_|intro _
 refine X0 [_] (N7 I x s) [] (a3X hn ⟨hb.1,om⟩) (fun u m1 hu=>?_);obtain⟨rfl,rfl⟩:=hu;by_cases h2:M0 x.n-s.m.b<(y7 r).length
 ·rw[if_pos h2];repeat' first|refine Zz ?_|intro _
  refine o5 (N7 I x s) ⟨rfl,I.vw,rfl⟩ ?_;exact r9
 rw[if_neg h2];have hel:=a5g s.l;have hal:(I5 s.l++y7 r).length=(I5 s.l).length+(y7 r).length:=lla;repeat' first|refine Zz ?_|intro _
 rename_i g2 g7 g8;have hM:MkB (F5 s r):=⟨by unfold F5;dsimp only;omega,by unfold F5;dsimp only;omega,by unfold F5;dsimp only;omega⟩;refine eY (vs:=[.pointer (some ⟨g2,0,none⟩)]) ?_;repeat' first|refine Zz ?_|intro _
 refine eY (vs:=[.pointer (some ⟨g2,0,none⟩),.pointer (some ⟨g7,0,none⟩)]) ?_;repeat' first|refine Zz ?_|intro _
 refine eY (vs:=[.pointer (some ⟨g2,0,none⟩),.pointer (some ⟨g8,0,none⟩)]) ?_;repeat' first|refine Zz ?_|intro _
 refine IQ (N7 I x s++qC 77 9 g2 g7 g8 I.gs (I5 s.l++y7 r) (F5 s r)) _ ?_ (a1a (N7 I x s) _ _ _) slr;refine R6 (a4a hx hb hM om hbr) (fun u m1 hu=>?_);obtain⟨rfl,v,rfl⟩:=hu;have hds:(if (Y9 x s r).2≠0 then ((Y9 x s r).1,({ s with br:=true }:SlX),(Y9 x s r).2) else if (aL x s r).2≠0 then ((aL x s r).1,{ s with br:=true },(aL x s r).2) else if (aK x s r).2≠0 then ((aK x s r).1,{ s with br:=true },(aK x s r).2)
   else if (bM x s r).2≠0 then ((bM x s r).1,{ s with br:=true },(bM x s r).2) else ((bM x s r).1,⟨F5 s r,s.l++y7 r,false⟩,0))=((gH x s r).1,if (gH x s r).2≠0 then { s with br:=true } else ⟨F5 s r,s.l++y7 r,false⟩,(gH x s r).2):=by
  unfold gH;by_cases e1:(Y9 x s r).2=0
  ·by_cases e2:(aL x s r).2=0
   ·by_cases e3:(aK x s r).2=0
    ·by_cases e4:(bM x s r).2=0
     ·simp[e1,e2,e3,e4]
     ·simp[e1,e2,e3,e4]
    ·simp[e1,e2,e3]
   ·simp[e1,e2]
  ·simp[e1]
 rw[hds];generalize gH x s r=q at *;obtain⟨y,e⟩:=q;dsimp only;by_cases e0:e=0
 rotate_left
 ·rw[if_pos e0,dT e0];repeat' first|refine Zz ?_|intro _
  refine jO (N7 { I with vw:=v } y { s with br:=true }) _ ?_ lpr (List.sublist_append_left _ _);exact o5 _ ⟨rfl,v,rfl⟩ slr
 ·subst e0;rw[if_neg (show ¬ ((0:Int)≠0) by decide),dZ (show ¬ ((0:Int)≠0) by decide)];repeat' first|refine Zz ?_|intro _
  apply u7 [];exact rfl;exact rfl;kernel_rfl
  ·intro _ _;refine Q7 ((I5 s.l++y7 r).length-(I5 s.l++y7 r).length%64) (I5 s.l++y7 r).length ?_ (h4:=Nat.le_refl _);rw[List.take_length,show (I5 s.l++y7 r).drop ((I5 s.l++y7 r).length-(I5 s.l++y7 r).length%64)=I5 (I5 s.l++y7 r) from rfl,a5h];exact j4 (o7 rfl rfl)
  repeat' first|refine Zz ?_|intro _
  refine jO (N7 { I with vw:=v } y ⟨F5 s r,s.l++y7 r,false⟩) _ ?_ lpr (List.sublist_append_left _ _);exact o5 _ ⟨rfl,v,rfl⟩ slr

structure ChX where
 nm:Bs
 ky:Bs
 ms:List (List Ent)
 bl:List BlkX
 hs:List Hdr
 ev:List EvX
 ws:List Bs
 dd:Bool
def L9 (c:ChX):List Ent:=c.ms.getD c.hs.length []
def fB (c:ChX):Int:=((c.hs.getLast?).map (·.t)).getD 0
def MU (c:ChX)(b:BlkX):Hdr:=⟨c.nm,b.h,b.t,xF (M7 (L9 c) b).1⟩
def dW (c:ChX)(b:BlkX):ChX:={ c with ms:=c.ms++[(M7 (L9 c) b).1],bl:=c.bl++[b],hs:=c.hs++[MU c b],ev:=c.ev++(M7 (L9 c) b).2.2 }
structure ChI extends SlI where
 gc:Nat
 vm:Value
 vh:Value
 ve:Value
 vt:Value
abbrev X8 (gs:Nat)(vm vh ve vt:Value)(c:ChX):AV:=.agg 8 [str c.nm,str c.ky,ptr gs,.sl 1 (c.ms.map dA) (some vm),.sl 35 (c.hs.map jK) (some vh),.sl 15 (c.ev.map V9) (some ve),.sl 1 (c.ws.map str) (some vt),j3 c.dd]
abbrev O1 (I:ChI)(x:DvX)(s:SlX)(c:ChX):List Av.Piece:=.var I.gc 84 (X8 I.gs I.vm I.vh I.ve I.vt c)::.tail 44 1 I.vm::.tail 50 35 I.vh::.tail 190 15 I.ve::.tail 9 1 I.vt::N7 I.toSlI x s
theorem Ho {b:Bool}:Imp (.tup [.agg 1 [P9],j3 b]) (.tup [dA [],j3 b]):=(inferInstance:ImpR (.tup [.agg 1 [.lit (.slice none 0 0)],j3 b]) (.tup [.agg 1 [.sl 2 [] none],j3 b])).imp
section
variable {g gs:Nat} {vm vh ve vt:Value} {c:ChX}
instance b8s:AnsM prog GL 88 g [] 84 (X8 gs vm vh ve vt c) True (j3 true) (X8 gs vm vh ve vt c):=⟨fun _=>by
 refine qE func88 rfl ntmps88 rfl (fun _ hs=>?_);repeat' first|refine Zz ?_|intro _
 exact o5 _ ⟨rfl,rfl⟩ slr⟩
instance b8w:AnsM prog GL 41 g [] 84 (X8 gs vm vh ve vt c) True (j3 c.dd) (X8 gs vm vh ve vt c):=⟨fun _=>by
 refine qE func41 rfl ntmps41 rfl (fun _ hs=>?_);repeat' first|refine Zz ?_|intro _
 exact o5 _ ⟨rfl,rfl⟩ slr⟩
instance b8r:AnsM prog GL 60 g [] 84 (X8 gs vm vh ve vt c) True (str c.nm) (X8 gs vm vh ve vt c):=⟨fun _=>by
 refine qE func60 rfl ntmps60 rfl (fun _ hs=>?_);repeat' first|refine Zz ?_|intro _
 exact o5 _ ⟨rfl,rfl⟩ slr⟩
instance b8t:AnsM prog GL 29 g [] 84 (X8 gs vm vh ve vt c) True (int c.hs.length) (X8 gs vm vh ve vt c):=⟨fun _=>by
 have hm:(c.hs.map jK).length=c.hs.length:=llm _;refine qE func29 rfl ntmps29 rfl (fun _ hs=>?_);repeat' first|refine Zz ?_|intro _
 rw[hm];exact o5 _ ⟨rfl,rfl⟩ slr⟩
instance b8o:AnsM prog GL 59 g [] 84 (X8 gs vm vh ve vt c) True (int c.ws.length) (X8 gs vm vh ve vt c):=⟨fun _=>by
 have hm:(c.ws.map str).length=c.ws.length:=llm _;refine qE func59 rfl ntmps59 rfl (fun _ hs=>?_);repeat' first|refine Zz ?_|intro _
 rw[hm];exact o5 _ ⟨rfl,rfl⟩ slr⟩
instance b8p:AnsM prog GL 30 g [] 84 (X8 gs vm vh ve vt c) (c.hs.length<=1000000) (int (fB c)) (X8 gs vm vh ve vt c):=⟨fun hl=>by
 have hm:(c.hs.map jK).length=c.hs.length:=llm _;refine qE func30 rfl ntmps30 rfl (fun _ hs=>?_);repeat' first|refine Zz ?_|intro _
 unfold fB;by_cases h:c.hs.length=0
 ·rw[List.length_eq_zero_iff.1 h];repeat' first|refine Zz ?_|intro _
  exact o5 _ ⟨rfl,rfl⟩ slr
 ·obtain⟨k,hk⟩:∃ k,c.hs.length=k+1:=⟨c.hs.length-1,om⟩;have hkl:k<c.hs.length:=by omega
  have hg:c.hs.getLast?=some c.hs[k]:=by
   rw[List.getLast?_eq_getElem?,hk];exact List.getElem?_eq_getElem hkl
  rw[hg];repeat' first|refine Zz ?_|intro _
  rw[show ((c.hs.map jK).length:Int)-1=(k:Int) by omega];repeat' first|refine Zz ?_|intro _
  exact o5 _ ⟨rfl,rfl⟩ slr⟩
instance b8x {h:Int}:AnsM prog GL 16 g [int h] 84 (X8 gs vm vh ve vt c) (c.ms.length<=1000000) (.tup [dA (if 0<=h/\h<c.ms.length then c.ms.getD h.toNat [] else []),j3 (decide (0<=h/\h<c.ms.length))]) (X8 gs vm vh ve vt c):=⟨fun hl=>by
 have hm:(c.ms.map dA).length=c.ms.length:=llm _;refine qE func16 rfl ntmps16 rfl (fun _ hs=>?_);repeat' first|refine Zz ?_|intro _
 by_cases h0:0<=h
 rotate_left
 ·rw[if_neg (fun e=>h0 e.1),dZ (fun e=>h0 e.1)];repeat' first|refine Zz ?_|intro _
  refine U8 (.tup [dA [],j3 false]) [.var g 84 (X8 gs vm vh ve vt c)] ?_ ⟨rfl,rfl⟩ ?_
  ·exact Ho
  exact r9
 by_cases h1:h<c.ms.length
 rotate_left
 ·rw[if_neg (fun e=>h1 e.2),dZ (fun e=>h1 e.2)];repeat' first|refine Zz ?_|intro _
  refine U8 (.tup [dA [],j3 false]) [.var g 84 (X8 gs vm vh ve vt c)] ?_ ⟨rfl,rfl⟩ ?_
  ·exact Ho
  exact r9
 ·obtain⟨k,rfl⟩:∃ k:Nat,h=k:=⟨h.toNat,om⟩;have hkl:k<c.ms.length:=by omega
  rw[if_pos ⟨h0,h1⟩,dT ⟨h0,h1⟩,Int.toNat_natCast,List.getD_eq_getElem?_getD,List.getElem?_eq_getElem hkl];repeat' first|refine Zz ?_|intro _
  refine o5 [.var g 84 (X8 gs vm vh ve vt c)] ⟨rfl,rfl⟩ ?_;repeat (first|exact List.nil_sublist _|exact List.Sublist.refl _|apply List.Sublist.cons_cons|apply List.Sublist.cons)⟩
attribute [local irreducible] fB
instance b8q:AnsM prog GL 55 g [] 84 (X8 gs vm vh ve vt c) (c.hs.length<c.ms.length/\c.ms.length<=1000000) (dA (L9 c)) (X8 gs vm vh ve vt c):=⟨fun hl=>by
 have hl2:=hl.2;refine qE func55 rfl ntmps55 rfl (fun _ hs=>?_);repeat' first|refine Zz ?_|intro _
 unfold L9;rw[if_pos (show 0<=(c.hs.length:Int)/\(c.hs.length:Int)<c.ms.length by omega),Int.toNat_natCast];refine o5 [.var g 84 (X8 gs vm vh ve vt c)] ⟨rfl,rfl⟩ ?_;repeat (first|exact List.nil_sublist _|exact List.Sublist.refl _|apply List.Sublist.cons_cons|apply List.Sublist.cons)⟩
instance b8u {h:Int}:AnsM prog GL 17 g [int h] 84 (X8 gs vm vh ve vt c) ((c.hs.length<=1000000/\c.ky.length<=1000000)/\∀ y∈c.hs,y.h<=9223372036854775807/\y.t<=9223372036854775807)
  (if 1<=h/\h<=c.hs.length then .tup [jK (c.hs.getD (h-1).toNat ⟨[],0,0,J7⟩),hA (tY c.ky (c.hs.getD (h-1).toNat ⟨[],0,0,J7⟩)),j3 true] else .tup [jK ⟨[],0,0,J7⟩,hA J7,j3 false]) (X8 gs vm vh ve vt c):=⟨fun hp=>by
 obtain⟨⟨hl,hky⟩,hy⟩:=hp;have hm:(c.hs.map jK).length=c.hs.length:=llm _;refine qE func17 rfl ntmps17 rfl (fun _ hs=>?_);repeat' first|refine Zz ?_|intro _
 by_cases h0:1<=h
 rotate_left
 ·rw[if_neg (fun e=>h0 e.1)];repeat' first|refine Zz ?_|intro _
  refine o5 [.var g 84 (X8 gs vm vh ve vt c)] ⟨rfl,rfl⟩ ?_;exact r9
 by_cases h1:h<=c.hs.length
 rotate_left
 ·rw[if_neg (fun e=>h1 e.2)];repeat' first|refine Zz ?_|intro _
  refine o5 [.var g 84 (X8 gs vm vh ve vt c)] ⟨rfl,rfl⟩ ?_;exact r9
 ·obtain⟨k,hk⟩:∃ k:Nat,h=k+1:=⟨(h-1).toNat,om⟩;have hkl:k<c.hs.length:=by omega
  have hyk:=hy _ (List.getElem_mem hkl);have hsp:c.ky.length<=1000000/\c.hs[k].h<=9223372036854775807/\c.hs[k].t<=9223372036854775807:=⟨hky,hyk⟩;rw[if_pos ⟨h0,h1⟩,show h-1=(k:Int) by omega,Int.toNat_natCast,List.getD_eq_getElem?_getD,List.getElem?_eq_getElem hkl];repeat' first|refine Zz ?_|intro _
  rw[show h-1=(k:Int) by omega];repeat' first|refine Zz ?_|intro _
  refine o5 [.var g 84 (X8 gs vm vh ve vt c)] ⟨rfl,rfl⟩ ?_;repeat (first|exact List.nil_sublist _|exact List.Sublist.refl _|apply List.Sublist.cons_cons|apply List.Sublist.cons)⟩
end

def eG (c:ChX)(s:Bs):Int:=if c.dd=true then 13 else if 6000<s.length then 11 else if 16<=c.ws.length then 15 else 0
def tZ (c:ChX)(s:Bs):ChX:=if eG c s=0 then { c with ws:=c.ws++[s] } else c
theorem GQ {I:ChI}{x:DvX}{s:SlX}{c:ChX}{t:Bs}(hw:c.ws.length<=1000000):Av.Spec prog GL 11 [ptr I.gc,str t] (O1 I x s c) fun u m=>u=int (eG c t)/\∃ v,m=O1 { I with vt:=v } x s (tZ c t):=by
 have hm:(c.ws.map str).length=c.ws.length:=llm _;refine qE func11 rfl ntmps11 rfl (fun _ hs=>?_);repeat' first|refine Zz ?_|intro _
 unfold tZ;by_cases hd:c.dd=true
 ·have he:eG c t=13:=by unfold eG;rw[if_pos hd]
  rw[he,if_neg dc];rw[hd];repeat' first|refine Zz ?_|intro _
  exact o5 (O1 I x s c) ⟨rfl,I.vt,rfl⟩ slr
 have hd0:c.dd=false:=by simpa using hd
 by_cases h1:6000<t.length
 ·have he:eG c t=11:=by unfold eG;rw[if_neg hd,if_pos h1]
  rw[he,if_neg dc];rw[hd0];repeat' first|refine Zz ?_|intro _
  exact o5 (O1 I x s c) ⟨rfl,I.vt,rfl⟩ slr
 by_cases h2:16<=c.ws.length
 ·have he:eG c t=15:=by unfold eG;rw[if_neg hd,if_neg h1,if_pos h2]
  rw[he,if_neg dc];rw[hd0];repeat' first|refine Zz ?_|intro _
  exact o5 (O1 I x s c) ⟨rfl,I.vt,rfl⟩ slr
 ·have he:eG c t=0:=by unfold eG;rw[if_neg hd,if_neg h1,if_neg h2]
  rw[he,if_pos rfl];rw[hd0];repeat' first|refine Zz ?_|intro _
  refine I4 (fun v'=>?_);repeat' first|refine Zz ?_|intro _
  rw[show c.ws.map str++[str t]=(c.ws++[t]).map str by rw[List.map_append];rfl,hd0];exact o5 _ ⟨rfl,v',rfl⟩ slr
theorem KH {d:List Ent}{b:BlkX}(h:DOk d):DOk (M7 d b).1:=KI h
theorem Jv {I:ChI}{x:DvX}{s:SlX}{c:ChX}{b:BlkX}{id:Option Value}(h1:c.hs.length<c.ms.length/\c.ms.length<=1000000)(h2:c.ev.length<=1000000)(hd:DOk (L9 c))(hl:b.x.length<=16)(hx:∀ s∈b.x,Tx20 s) :
  Av.Spec prog GL 34 [ptr I.gc,.agg 3 [int b.h,int b.t,.sl 1 (b.x.map str) id]] (O1 I x s c) fun u m=>u=.sl 3 ((M7 (L9 c) b).2.1.map J6) none/\∃ v1 v2 v3,m=O1 { I with vm:=v1,vh:=v2,ve:=v3 } x s (dW c b):=by
 have hr:=YO hd hl hx;have hr2:=KH (b:=b) hd;have hm1:(c.ms.map dA).length=c.ms.length:=llm _;have hm2:(c.hs.map jK).length=c.hs.length:=llm _;have hm3:(c.ev.map V9).length=c.ev.length:=llm _;have hr3:(M7 (L9 c) ⟨b.h,b.t,b.x⟩).1.length<=1000000:=Nat.le_trans hr2.l dc;have hr4:=(xD (h:=b.h) (t:=b.t) (l:=b.x) (q:=(L9 c,[],[]))).2;have hr5:(M7 (L9 c) ⟨b.h,b.t,b.x⟩).2.2.length<=16:=by
  have e:(M7 (L9 c) ⟨b.h,b.t,b.x⟩).2.2.length<=([]:List EvX).length+b.x.length:=hr4;simp only[List.length_nil] at e;omega
 refine qE func34 rfl ntmps34 rfl (fun _ hs=>?_);repeat' first|refine Zz ?_|intro _
 apply bA [10];exact rfl;exact rfl;kernel_rfl
 ·intro _ _;refine bP ?_;exact j4 (bG rfl)
 ·exact rfl
 ·exact rfl
 repeat' first|refine Zz ?_|intro _
 apply u7 [10];exact rfl;exact rfl;kernel_rfl
 ·intro _ _;refine aU ?_;exact j4 (o7 rfl rfl)
 repeat' first|refine Zz ?_|intro _
 apply V8 [2];exact rfl;exact rfl;kernel_rfl;kernel_rfl;intro _ _;refine I4 (fun v1=>?_);refine j4 (U4 [.tail 44 1 v1] [] rfl rfl lpr rfl ?_);repeat' first|refine Zz ?_|intro _
 apply u7 [10];exact rfl;exact rfl;kernel_rfl
 ·intro _ _;refine aU ?_;exact j4 (o7 rfl rfl)
 repeat' first|refine Zz ?_|intro _
 apply V8 [3];exact rfl;exact rfl;kernel_rfl;kernel_rfl;intro _ _;refine I4 (fun v2=>?_);refine j4 (U4 [.tail 50 35 v2] [] rfl rfl lpr rfl ?_);repeat' first|refine Zz ?_|intro _
 refine I4 (fun v3=>?_);repeat' first|refine Zz ?_|intro _
 rw[show c.ms.map dA++[dA (M7 (L9 c) ⟨b.h,b.t,b.x⟩).1]=(c.ms++[(M7 (L9 c) b).1]).map dA by rw[List.map_append];rfl,show c.hs.map jK++[jK ⟨c.nm,b.h,b.t,xF (M7 (L9 c) ⟨b.h,b.t,b.x⟩).1⟩]=(c.hs++[MU c b]).map jK by rw[List.map_append];rfl,show c.ev.map V9++(M7 (L9 c) ⟨b.h,b.t,b.x⟩).2.2.map V9=(c.ev++(M7 (L9 c) b).2.2).map V9 by rw[List.map_append]];refine o5 (O1 { I with vm:=v1,vh:=v2,ve:=v3 } x s (dW c b)) ⟨rfl,v1,v2,v3,rfl⟩ ?_;exact r9

structure ChOk (x:DvX)(s:SlX)(c:ChX):Prop where
 dv:DvOk x
 wl:x.ws.length<=1000
 me:0<=s.m.e/\s.m.e<=1000000
 mb:0<=s.m.b/\s.m.b<=1000000
 mc:0<=s.m.c/\s.m.c<=1000000
 br:s.br=false
 hl:c.hs.length<c.ms.length/\c.ms.length<=100000
 ev:c.ev.length<=100000
 st:DOk (L9 c)
 ws:c.ws.length<=16
 tx:∀ s∈c.ws,Tx20 s
 tm:0<=fB c/\fB c<=1099511627776
def dX (c:ChX)(t:Int):BlkX:=⟨c.hs.length+1,max (min t 1099511627776) (fB c),c.ws⟩
def J4 (x:DvX)(s:SlX)(c:ChX)(t:Int):DvX × SlX × Int:=fK x s (K5 (dX c t))
def tC (x:DvX)(s:SlX)(c:ChX)(t:Int):ChX:=if (J4 x s c t).2.2=0 then dW { c with ws:=[] } (dX c t) else { c with dd:=decide ((J4 x s c t).2.2=14) }
def sZ (x:DvX)(s:SlX)(c:ChX)(t:Int):List Rep:=if (J4 x s c t).2.2=0 then (M7 (L9 c) (dX c t)).2.1 else []
theorem a3l {nm ky:Bs}{gs:Nat}{xs ys zs:List AV}{i j k:Option Value}{d:Bool}:ImpC (.agg 8 [str nm,str ky,ptr gs,.sl 1 xs i,.sl 35 ys j,.sl 15 zs k,.lit (.slice none 0 0),j3 d]) (.agg 8 [str nm,str ky,ptr gs,.sl 1 xs i,.sl 35 ys j,.sl 15 zs k,.sl 1 [] (some (.slice none 0 0)),j3 d]):=(inferInstance:ImpT _ _).imp
theorem MR {e:Int}:Imp (.tup [P9,int e]) (.tup [.sl 3 [] none,int e]):=(inferInstance:ImpR (.tup [.lit (.slice none 0 0),int e]) (.tup [.sl 3 [] none,int e])).imp
theorem Jy {I:ChI}{x:DvX}{s:SlX}{c:ChX}{t:Int}(h:ChOk x s c)(hd:c.dd=false):Av.Spec prog GL 14 [ptr I.gc,int t] (O1 I x s c)
  fun u m=>u=.tup [.sl 3 ((sZ x s c t).map J6) none,int (J4 x s c t).2.2]/\∃ v vm vh ve vt,m=O1 { I with vw:=v,vm:=vm,vh:=vh,ve:=ve,vt:=vt } (J4 x s c t).1 (J4 x s c t).2.1 (tC x s c t):=by
 have hhl:=h.hl;have htm:=h.tm;have hws:=h.ws;have hm:(c.ws.map str).length=c.ws.length:=llm _;refine qE func14 rfl ntmps14 rfl (fun _ hs=>?_);repeat' first|refine Zz ?_|intro _
 rw[hd];repeat' first|refine Zz ?_|intro _
 apply bA [9];exact rfl;exact rfl;kernel_rfl
 ·intro _ _;refine bP ?_;exact j4 (bG rfl)
 ·exact rfl
 ·exact rfl
 repeat' first|refine Zz ?_|intro _
 apply u7 [9];exact rfl;exact rfl;kernel_rfl
 ·intro _ _;refine aU ?_;exact j4 (o7 rfl rfl)
 repeat' first|refine Zz ?_|intro _
 apply V8 [5,6,7,8];exact rfl;exact rfl;kernel_rfl;kernel_rfl;intro _ _;refine R6 (a4b (I:=I.toSlI) (x:=x) (s:=s) (r:=K5 (dX c t)) h.dv h.wl h.me h.mb h.mc h.br) (fun u m1 hu=>?_);obtain⟨rfl,v,rfl⟩:=hu;have hQ:fK x s (K5 (dX c t))=J4 x s c t:=rfl;rw[hQ];refine j4 (U4 (N7 { I.toSlI with vw:=v } (J4 x s c t).1 (J4 x s c t).2.1) [] rfl rfl lpr rfl ?_);unfold tC sZ;by_cases he:(J4 x s c t).2.2=0
 rotate_left
 ·rw[if_neg he,if_neg he];repeat' first|refine Zz ?_|intro _
  refine U8 (.tup [.sl 3 (([]:List Rep).map J6) none,int (J4 x s c t).2.2]) (O1 { I with vw:=v } (J4 x s c t).1 (J4 x s c t).2.1 { c with dd:=decide ((J4 x s c t).2.2=14) }) ?_ ⟨rfl,v,I.vm,I.vh,I.ve,I.vt,rfl⟩ ?_
  ·exact MR
  ·exact r9
 ·rw[if_pos he,if_pos he];repeat' first|refine Zz ?_|intro _
  refine Qx (g:=I.gc) a3l ?_;refine nJ (fun ok w h=>h.full 9 1 none 0) ?_;refine IQ (O1 { I with vw:=v,vt:=.slice none 0 0 } (J4 x s c t).1 (J4 x s c t).2.1 { c with ws:=[] }) (_::([_,_,_,_]++N7 { I.toSlI with vw:=v } (J4 x s c t).1 (J4 x s c t).2.1)) ?_ (List.perm_middle (l₁:=[_,_,_,_])) ?_;rotate_left
  ·exact r9
  refine R6 (Jv (c:={ c with ws:=[] }) (b:=dX c t) (id:=some I.vt) ⟨hhl.1,by dsimp only;omega⟩ (by have:=h.ev;dsimp only;omega) h.st h.ws h.tx) (fun u m1 hu=>?_);obtain⟨rfl,v1,v2,v3,rfl⟩:=hu;repeat' first|refine Zz ?_|intro _
  rw[he];exact o5 _ ⟨rfl,v,v1,v2,v3,.slice none 0 0,rfl⟩ slr
end Go.Proofs.YtocpacdnjbjjmaaGreatDoor

namespace Av
open Go Go.RowKit Tw
section
variable {P:Program} {N:Nat} {ops:Array Oper} {Q:Exit->Act->World->Prop} {rest:List Oper} {s:Base} {e:Env} {m:List Piece} {d:Nat} {ty:TypeId} {pos:String} {af:Array Edge}
theorem Qt {T E:TypeId}{k b:Nat}[t:TyE P T E k b]{n:Nat}{parts:List (Nat × Operand)}{vals:List AV}(h:∀ A,AL P N ops Q s rest ((d,.sl k vals (some (.slice A n n)))::e) (.tail E k (.slice A n n)::m))(hx:L8 e (parts.map (·.2))=some vals:=by exact rfl)
  (hi:parts.map (·.1)=List.range n:=by exact rfl) (hk:vals.all (fun v=>Nat.beq v.size k)=true:=by exact rfl) (hn:vals.all P7=true:=by exact rfl) (hs:Nat.ble (n*k) 65536=true:=by exact rfl) (hn0:Nat.blt 0 n=true:=by exact rfl) (hd:Nat.blt d N=true:=by exact rfl) :
  AL P N ops Q s (⟨some d,.buildSlice T n parts.toArray,ty,pos,af,none⟩::rest) e m:=by
 have hkv:∀ v∈vals,v.size=k:=fun z hz=>Nat.eq_of_beq_eq_true (List.all_eq_true.1 hk z hz);have hkp:0<k:=nlb t.k0;have hnp:0<n:=nlb hn0;have hnk:n*k<=65536:=nlb hs;refine iR (fun ok w A hS hA=>?_) hd;obtain⟨vs,hvs,hmap⟩:=GJ hA hx hn;have hpv:=PR.of_vs hvs;have hlv:=hpv.length;have hsv:=hpv.sizes hkv;have hlen:vs.length=n:=by
  have h1:((parts.map (·.2)).map A.eval).length=vs.length:=by rw[hlv,(hA.evals hx hn).length.symm]
  have h2:(parts.map (·.1)).length=n:=by rw[hi];simp
  simp at h1 h2;omega
 obtain⟨i,z,q1,q2,hzk,_,_⟩:=t.zero;have hzr:(zeroValue E).run P w=.ok z w:=by simp[zeroValue,typeInfo,q1,q2]
 subst hlen;have hcells:((Array.range (vs.length*k)).map (z.cells[· % z.cells.size]!))=(fl (List.replicate vs.length (.agg z.cells))).toArray:=by
  apply Array.ext';rw[GV z.cells (v:=.agg z.cells) rfl,hzk];simp
 have hset:=EL (z:=.agg z.cells) vs [] (fun v hv=>by rw[hsv v hv];exact hzk);simp only[List.nil_append,List.length_nil] at hset;have hfill:=(uM (place:=fun i=>some (i*k,k)) (by
  intro i u hiu;obtain⟨hil,hie⟩:=List.getElem?_eq_some_iff.1 hiu;rw[List.getElem_replicate] at hie;subst hie;have hil':i<vs.length:=by simpa using hil
  rw[nA (k:=k) (fun x hx=>by
   have:=List.mem_of_mem_take hx;rw[List.mem_replicate] at this;rw[this.2];exact hzk)]
  simp[Nat.min_eq_left (Nat.le_of_lt hil')];exact hzk.symm) hset).1
 have hE:=Ext.alloc w (.cells (fl vs).toArray E);have hblk:(w.alloc (.cells (fl vs).toArray E)).heap[w.heap.size]?=some (.cells (fl vs).toArray E (0,0)):=heap_alloc_new w _;have hst:=Ext.astp hE ok;refine⟨.sl k vals (some (.slice (some ⟨w.heap.size,0,none⟩) vs.length vs.length)),.slice (some ⟨w.heap.size,0,none⟩) vs.length vs.length,w.alloc (.cells (fl vs).toArray E),ok,_,?_,?_,(hS.ext hE).full E k (some ⟨w.heap.size,0,none⟩) vs.length,hst,h _⟩
 ·have h0:¬ vs.length*k > 2 ^ 24:=om
  have h1:¬ vs.length*k=0:=by
   have:=Nat.mul_pos hnp hkp;omega
  have hmap':(Array.map (fun (x:Nat × Operand)=>(x.fst,A.eval x.snd)) parts.toArray).toList=(List.range' 0 vs.length).zip vs:=by rw[hmap,hi,List.range_eq_range']
  simp only[execOp,Instr.buildSlice,Sem.run_bind,run_underlying t.l.out,Result.andThen_ok,run_sizeOf t.l.size,h0,h1,if_false,Sem.run_pure,hzr];rw[hmap',hcells,hfill];simp[newRow,newObj,Sem.run]
 ·refine RV.sl hlv (fun v hv=>by injection hv with hv;rw[<- hv]) (Nat.le_refl _) (by
   have:vs.length<=vs.length*k:=Nat.le_mul_of_pos_right _ hkp;simp only[maxLen];omega) (fun _=>⟨w.heap.size,0,fl vs,rfl,by rw[nA hsv],fun j v hj=>?_,(hpv.cells).stp hst⟩) hkv
  rw[Nat.zero_add,cell_of_row _ _ _ _ _ _ hblk];exact⟨by simpa using hj,hS.fresh _ _ (Nat.le_refl _)⟩
end
end Av

namespace Go.Proofs.YtocpacdnjbjjmaaGreatDoor
open Go Go.RowKit Tw Av Go.Proofs.Tryz
def aW (l:List BlkX):Int:=((l.getLast?).map (·.t)).getD 0
structure BsG (bs:List BlkX):Prop where
 l:bs.length<=1000
 g:∀ b∈bs,BkG b/\∀ s∈b.x,Tx20 s
 h:∀ i (h:i<bs.length),bs[i].h=i+1/\aW (bs.take i)<=bs[i].t
def GD (nm ky:Bs)(d:List Ent):ChX:=⟨nm,ky,[d],[],[],[],[],false⟩
def opC (nm ky:Bs)(d:List Ent)(bs:List BlkX):ChX:=bs.foldl dW (GD nm ky d)
structure OpI (nm ky:Bs)(bs:List BlkX)(c:ChX):Prop where
 nm:c.nm=nm
 ky:c.ky=ky
 hs:c.hs.length=bs.length
 ms:c.ms.length=bs.length+1
 bl:c.bl=bs
 ev:c.ev.length<=16*bs.length
 st:DOk (L9 c)
 tm:fB c=aW bs
 ws:c.ws=[]
 dd:c.dd=false
theorem Xh (l:List BlkX)(b:BlkX):aW (l++[b])=b.t:=by
 unfold aW;rw[List.getLast?_append];rfl
theorem a1v {nm ky:Bs}{bs:List BlkX}{c:ChX}{b:BlkX}(h:OpI nm ky bs c)(hl:b.x.length<=16):OpI nm ky (bs++[b]) (dW c b):=by
 have hs:=h.hs;have hm:=h.ms;have hr:L9 (dW c b)=(M7 (L9 c) b).1:=by
  unfold L9 dW;dsimp only;rw[lla,List.length_singleton,List.getD_eq_getElem?_getD,List.getElem?_append_right om,show c.hs.length+1-c.ms.length=0 by omega];rfl
 have hev:=(xD (h:=b.h) (t:=b.t) (l:=b.x) (q:=(L9 c,[],[]))).2;refine⟨h.nm,h.ky,?_,?_,?_,?_,?_,?_,h.ws,h.dd⟩
 ·unfold dW;dsimp only;rw[lla,lla,hs];rfl
 ·unfold dW;dsimp only;rw[lla,lla,hm];rfl
 ·unfold dW;dsimp only;rw[h.bl]
 ·unfold dW;dsimp only;have:=h.ev;have e:(M7 (L9 c) b).2.2.length<=([]:List EvX).length+b.x.length:=hev;simp only[List.length_append,List.length_nil,List.length_singleton] at e ⊢;omega
 ·rw[hr];exact KH h.st
 ·rw[Xh];unfold fB dW;dsimp only;rw[List.getLast?_append];rfl
theorem a1u {nm ky:Bs}{d:List Ent}(hd:DOk d):OpI nm ky [] (GD nm ky d):=⟨rfl,rfl,rfl,rfl,rfl,Nat.le_refl _,hd,rfl,rfl,rfl⟩
theorem LF {nm ky:Bs}{d:List Ent}{bs:List BlkX}{b:BlkX}:opC nm ky d (bs++[b])=dW (opC nm ky d bs) b:=by
 unfold opC;rw[List.foldl_append];rfl
theorem LD {nm ky:Bs}{d:List Ent}{bs:List BlkX}{i:Nat}(h:i<bs.length):opC nm ky d (bs.take (i+1))=dW (opC nm ky d (bs.take i)) bs[i]:=by
 rw[<- List.take_append_getElem h,LF]
theorem AR {nm ky:Bs}{d:List Ent}(hd:DOk d){bs:List BlkX}(hb:BsG bs):∀ i,i<=bs.length->OpI nm ky (bs.take i) (opC nm ky d (bs.take i))
 | 0,_=>a1u hd
 | i+1,h=>by
  rw[LD h,<- List.take_append_getElem h];exact a1v (AR hd hb i om) (hb.g _ (List.getElem_mem _)).1.l
theorem a3m {nm ky:Bs}{gs:Nat}{xs:List AV}{i:Option Value}:ImpC (.agg 8 [str nm,str ky,ptr gs,.sl 1 xs i,P9,P9,P9,j3 false]) (.agg 8 [str nm,str ky,ptr gs,.sl 1 xs i,.sl 35 [] (some (.slice none 0 0)),.sl 15 [] (some (.slice none 0 0)),.sl 1 [] (some (.slice none 0 0)),j3 false]):=(inferInstance:ImpT _ _).imp
theorem a4K {I:DvI}{x:DvX}{nm ky:Bs}{gen:List Ent}{bs:List BlkX}{xs:List AV}{id:Option Value}(hxs:xs=gen.map C8)(h:1<=nm.length/\nm.length<=32/\ky.length<=64)(hx:DvOk x)(hw:x.ws.length<=1000)(h0:kI x=0)(hr:FP x=bs.map K5)(hb:BsG bs)(hg:gen.length<=1000)(hd:DOk (dG gen)) :
  Av.Spec prog GL 6 [ptr I.gd,str nm,str ky,.sl 2 xs id] (F4 I x) fun u m=>∃ J:ChI,J.gd=I.gd/\J.gm=I.gm/\u=.tup [ptr J.gc,int 0]/\m=O1 J x (dO x) (opC nm ky (dG gen) bs):=by
 subst hxs;have hne:nm≠[]:=by rintro rfl;simp at h
 have hbl:=hb.l;have hmb:((bs.map K5).map str).length=bs.length:=by rw[llm,llm]
 refine qE func6 rfl ntmps6 rfl (fun _ hs=>?_);repeat' first|refine Zz ?_|intro _
 refine R6 (a3Z hx om h0) (fun u m1 hu=>?_);obtain⟨gs,rfl,rfl⟩:=hu;rw[hr];repeat' (first|refine iN ?_|refine V7 ?_|refine R9 ?_|intro _|simp only[List.set]|refine yA ?_|refine yB ?_|refine tH ?_|refine wJ ?_|fail)
 refine Qt (fun A=>?_);repeat' first|refine Zz ?_|intro _
 rename_i gc;rw[hmb];refine gM (g:=gc) a3m ?_;refine O5 (fun ok w h=>h.full 9 1 none 0) ?_;refine O5 (fun ok w h=>h.full 190 15 none 0) ?_;refine O5 (fun ok w h=>h.full 50 35 none 0) ?_;refine PD (O1 ⟨⟨I,gs⟩,gc,.slice A 1 1,.slice none 0 0,.slice none 0 0,.slice none 0 0⟩ x (dO x) (GD nm ky (dG gen))) ([_,_,_]++([_,_]++N7 ⟨I,gs⟩ x (dO x))) ?_ (List.perm_append_comm_assoc [_,_] [_,_,_] _) slr;refine z8 (α:=Nat × Value × Value × Value) (fun z=>[(13,ptr gc),(14,j3 true),(48,.sl 1 ((bs.map K5).map str) none),(49,int bs.length),(50,int z.1)]) (fun z=>O1 ⟨⟨I,gs⟩,gc,z.2.1,z.2.2.1,z.2.2.2,.slice none 0 0⟩ x (dO x) (opC nm ky (dG gen) (bs.take z.1)))
  (fun z=>z.1<=bs.length) (fun z=>bs.length-z.1) (0,.slice A 1 1,.slice none 0 0,.slice none 0 0) ⟨rfl,rfl,rfl,rfl,rfl,trivial⟩ slr (Nat.zero_le _) ?_
 rintro⟨i,vm,vh,ve⟩ hi;dsimp only at hi ⊢;have hI:=AR (nm:=nm) (ky:=ky) hd hb i hi;by_cases hil:i<bs.length
 ·obtain⟨hbg,hbx⟩:=hb.g _ (List.getElem_mem hil);have hbh:=hb.h i hil;have hst:=LD (nm:=nm) (ky:=ky) (d:=dG gen) hil;have hsl:=hI.hs;have hml:=hI.ms;have hev:=hI.ev;have htm:=hI.tm;rw[List.length_take,Nat.min_eq_left om] at hsl hml hev;have hgi:(bs.map K5)[i]'(by rw[llm];exact hil)=K5 bs[i]:=List.getElem_map ..;have hll:i<(bs.map K5).length:=by rw[llm];exact hil
  generalize opC nm ky (dG gen) (bs.take i)=c at *;repeat' first|refine Zz ?_|intro _
  rw[hgi];repeat' first|refine Zz ?_|intro _
  rw[dT (show bs[i].h=(c.hs.length:Int)+1 by omega)];repeat' first|refine Zz ?_|intro _
  rw[dT (show fB c<=bs[i].t by omega)];repeat' first|refine Zz ?_|intro _
  rename_i g17;refine X0 [_] (O1 ⟨⟨I,gs⟩,gc,vm,vh,ve,.slice none 0 0⟩ x (dO x) c) [] (Jv (b:=bs[i]) (id:=none) ⟨om,om⟩ om hI.st hbg.l hbx) (fun u m1 hu=>?_);obtain⟨rfl,v1,v2,v3,rfl⟩:=hu;rw[<- hst];repeat' first|refine Zz ?_|intro _
  exact o6 (i+1,v1,v2,v3) ⟨rfl,rfl,rfl,rfl,rfl,trivial⟩ (List.sublist_cons_self _ _) hil (by dsimp only;omega)
 ·obtain rfl:i=bs.length:=by omega
  rw[List.take_length];repeat' first|refine Zz ?_|intro _
  refine o5 _ ⟨⟨⟨I,gs⟩,gc,vm,vh,ve,.slice none 0 0⟩,rfl,rfl,rfl,rfl⟩ slr
end Go.Proofs.YtocpacdnjbjjmaaGreatDoor
