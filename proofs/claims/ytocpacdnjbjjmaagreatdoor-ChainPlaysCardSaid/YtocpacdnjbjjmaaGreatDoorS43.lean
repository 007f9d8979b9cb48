/- . -/
import Derived.Test.YtocpacdnjbjjmaaGreatDoorS42
set_option maxHeartbeats 64000000
namespace Go.Proofs.YtocpacdnjbjjmaaGreatDoor
open Go Go.RowKit Tw Av Go.Proofs.Tryz
attribute [local irreducible] Q4 iH J9
abbrev r7A (gd:Nat)(s:SlX):AV:=.agg 6 [ptr gd,cZ s.m,str s.l,j3 s.br]
structure R7I extends R6I where
 gl:Nat
abbrev eP (I:R7I)(x:DvX)(s:SlX):List Av.Piece:=.var I.gl 164 (r7A I.gd s)::I7 I.toR6I x
attribute [local irreducible] M4
theorem a4q {I:R7I}{x:DvX}{s:SlX}(hn:0<=x.n/\x.n<=4096)(hl:s.l.length<=1099511627776):Av.Spec prog GL 109 [ptr I.gl] (eP I x s) fun u m=>u=int (M0 x.n-s.l.length)/\m=eP I x s:=by
 have hr:-128<=M0 x.n/\M0 x.n<=1000000:=by unfold M0;omega
 have hnn:(x.n.toNat:Int)=x.n:=om
 refine qE func109 rfl ntmps109 rfl (fun _ hs=>?_);repeat' first|refine Zz ?_|intro _
 refine o5 _ ⟨?_,rfl⟩ slr;unfold M0;rw[hnn];rfl
theorem a4r {I:R6I}{x:DvX}{l:List Bs}(hx:DvOk x)(hw:x.ws.length<=1000000)(h0:kI x=0)(hl:Q6 x (G6 x).b=J2 l)(hm:∀ s∈l,s.length<=1048576):Av.Spec prog GL 36 [ptr I.gd] (I7 I x) fun u m=>∃ gl,u=.tup [ptr gl,.sl 1 (l.map str) none,int 0]/\m=eP ⟨I,gl⟩ x (dO x):=by
 have hn:=hx.n;have h2:¬ x.n<=2:=fun h=>by unfold kI at h0;rw[if_pos h] at h0;cases h0
 have hon:x.on=true:=by
  cases h:x.on with
  | true=>rfl
  | false=>unfold kI at h0;rw[if_neg h2,if_pos h] at h0;cases h0
 have hr:¬ M0 x.n<(G6 x).b:=fun h=>by unfold kI at h0;rw[if_neg h2,if_neg (by rw[hon];decide),if_pos h] at h0;cases h0
 have hA:((lV (Q6 x (G6 x).b)).length:Int)=(G6 x).c:=by
  unfold kI at h0;rw[if_neg h2,if_neg (by rw[hon];decide),if_neg hr] at h0;by_cases h:wQ (Q6 x (G6 x).b)=[]/\((lV (Q6 x (G6 x).b)).length:Int)=(G6 x).c
  ·exact h.2
  ·rw[if_neg h] at h0;cases h0
 rw[hl,(Qd hm).1] at hA;have hh0:aQ x 0=true:=dT ⟨om,om⟩;have hh1:aQ x 1=true:=dT ⟨om,om⟩;have hrm:M0 x.n<=262016:=by unfold M0;omega
 have hrn:M0 x.n=(x.n-2)*64:=rfl;have hbn:0<=(G6 x).b:=SV;have hnn:(x.n.toNat:Int)=x.n:=by omega
 refine qE func36 rfl ntmps36 rfl (fun _ hs=>?_);repeat' first|refine Zz ?_|intro _
 refine X0 [] (I7 I x) [] (UQ hon hh0 hw hn.2) (fun u m1 hu=>?_);obtain⟨rfl,rfl⟩:=hu;repeat' first|refine Zz ?_|intro _
 refine X0 [] (I7 I x) [] (UQ hon hh1 hw hn.2) (fun u m1 hu=>?_);obtain⟨rfl,rfl⟩:=hu;repeat' first|refine Zz ?_|intro _
 rw[show rC (Z8 x 0) (Z8 x 1)=G6 x from rfl];repeat' first|refine Zz ?_|intro _
 rename_i g9;refine z8 (α:=Nat) (fun k=>[(0,ptr I.gd),(9,ptr g9),(10,str (dE x k)),(11,int (2+(k:Int)))]) (fun _=>.var g9 134 (cZ (G6 x))::I7 I x)
  (fun k=>(k:Int)*64<(G6 x).b+64) (fun k=>5000-k) 0 ⟨rfl,rfl,rfl,rfl,trivial⟩ slr (by show ((0:Nat):Int)*64<(G6 x).b+64;omega) ?_
 intro k hk;have hsl:=yG hx k;by_cases hlt:((dE x k).length:Int)<(G6 x).b
 ·have hhk:aQ x (2+(k:Int))=true:=dT ⟨om,om⟩;repeat' first|refine Zz ?_|intro _
  refine X0 [_] (I7 I x) [] (UQ hon hhk hw hn.2) (fun u m1 hu=>?_);obtain⟨rfl,rfl⟩:=hu;have hrl:=NG hx (2+(k:Int));repeat' first|refine Zz ?_|intro _
  refine o6 (k+1) ⟨rfl,rfl,?_,?_,trivial⟩ slr om om
  ·rw[yF];rfl
  ·show some (int (2+(k:Int)+1))=some (int (2+((k+1:Nat):Int)));rw[show 2+(k:Int)+1=2+((k+1:Nat):Int) by omega]
 ·have hlg:(dE x k).take (G6 x).b.toNat=Q6 x (G6 x).b:=VF hx om;have hll:(Q6 x (G6 x).b).length<=1000000:=by
   rw[<- hlg,List.length_take];omega
  have hrc:(l.map str).length=l.length:=llm _;repeat' first|refine Zz ?_|intro _
  refine Q7 0 (G6 x).b.toNat ?_ (h2:=by omega) (h4:=by omega);rw[List.drop_zero,hlg];repeat' first|refine Zz ?_|intro _
  rw[hl];rw[hl] at hll;refine Qs [str (J2 l)] (hc:=a4t) (hp:=⟨om,hm⟩) ?_;repeat' first|refine Zz ?_|intro _
  rename_i gl;have e:dO x=⟨G6 x,J2 l,false⟩:=by unfold dO;rw[hl]
  rw[e];refine o5 (eP ⟨I,gl⟩ x ⟨G6 x,J2 l,false⟩) ⟨gl,rfl,rfl⟩ ?_;exact r9
def DvIn (x:DvX):Prop:=∀ w∈x.ws,0<=w.1/\w.1<x.n
theorem Lb {x:DvX}{a:Int}{s:Bs}(h:DvIn x):DvIn (K4 x a s).1:=by
 unfold K4;split
 ·exact h
 split
 ·exact h
 rename_i _ hh;have ha:0<=a/\a<x.n:=by
  cases hd:aQ x a with
  | false=>exact absurd (.inl hd) hh
  | true=>exact of_decide_eq_true hd
 split
 all_goals
  intro w hw;rcases List.mem_append.1 (show w∈x.ws++[(a,s)] from hw) with hw|hw
  ·exact h w hw
  ·rw[List.mem_singleton.1 hw];exact ha
theorem a5r {x:DvX}(h:DvIn x):DvIn (R5 x).1:=by
 unfold R5;split
 ·exact h
 split
 ·exact h
 ·intro w hw;exact absurd (show w∈([]:List (Int × Bs)) from hw) sm
theorem a4s {I:R7I}{x:DvX}{s:SlX}{r:Bs}(hx:DvOk x)(hi:DvIn x)(hw:x.ws.length<=1000)(he:0<=s.m.e/\s.m.e<=1000000)(hb:s.m.b=s.l.length)(hb2:s.m.b<=1000000)(hc:0<=s.m.c/\s.m.c<=1000000)(hbr:s.br=false) :
  Av.Spec prog GL 45 [ptr I.gl,str r] (eP I x s) fun u m=>u=int (fK x s r).2.2/\∃ v,m=eP { I with vw:=v } (fK x s r).1 (fK x s r).2.1:=by
 have hn:=hx.n;have hrm:M0 x.n=(x.n-2)*64:=rfl;refine qE func45 rfl ntmps45 rfl (fun _ hs=>?_);repeat' first|refine Zz ?_|intro _
 rw[hbr];repeat' first|refine Zz ?_|intro _
 unfold fK;rw[if_neg (by rw[hbr];decide)];by_cases h1:1048576<r.length
 ·rw[if_pos h1,if_pos h1,if_pos h1];repeat' first|refine Zz ?_|intro _
  exact o5 (eP I x s) ⟨rfl,I.vw,rfl⟩ slr
 rw[if_neg h1,if_neg h1,if_neg h1];repeat' first|refine Zz ?_|intro _
 refine X0 [] (eP I x s) [] (a4q hn om) (fun u m1 hu=>?_);obtain⟨rfl,rfl⟩:=hu;rw[<- hb];by_cases h2:M0 x.n-s.m.b<(y7 r).length
 ·rw[if_pos h2];repeat' first|refine Zz ?_|intro _
  exact o5 (eP I x s) ⟨rfl,I.vw,rfl⟩ slr
 rw[if_neg h2];have hal:(s.l++y7 r).length=s.l.length+(y7 r).length:=lla;have hcm:Y9 x s r=gG x (2+((s.l.length / 64:Nat):Int)) ((s.l++y7 r).drop (64*(s.l.length / 64))):=by
  unfold Y9;rw[a5i,hb,show (s.l.length:Int) / 64=((s.l.length / 64:Nat):Int) by omega]
 repeat' first|refine Zz ?_|intro _
 generalize hA:s.l++y7 r=A at *;obtain⟨p0,hp0,hp1⟩:∃ p0:Nat,p0<64/\(A.length+p0)%64=0:=⟨(64-A.length%64)%64,om,om⟩;refine z8 (α:=Nat) (fun p=>[(0,ptr I.gl),(7,str A),(8,str (A++List.replicate p (0:UInt8)))]) (fun _=>eP I x s) (fun p=>p<=p0) (fun p=>p0-p) 0 ⟨rfl,rfl,by rw[List.replicate_zero,List.append_nil];rfl,trivial⟩ slr (Nat.zero_le _) ?_;intro p hp;have hlen:(A++List.replicate p (0:UInt8)).length=A.length+p:=by rw[lla,List.length_replicate]
 by_cases hz:(A.length+p)%64=0
 rotate_left
 ·have hp':p<p0:=by
   rcases Nat.lt_or_ge p p0 with h|h
   ·exact h
   ·exact absurd (show p=p0 by omega) (fun e=>hz (e ▸ hp1))
  repeat' first|refine Zz ?_|intro _
  refine o6 (p+1) ⟨rfl,rfl,?_,trivial⟩ slr hp' om;rw[List.replicate_succ',<- laa];rfl
 obtain rfl:p=p0:=by omega
 have hbn:s.l.length<=262016:=om
 have hAn:A.length<=262016:=om
 repeat' first|refine Zz ?_|intro _
 refine z8 (α:=Nat × DvX × Value) (fun z=>[(0,ptr I.gl),(7,str A),(8,str (A++List.replicate p (0:UInt8))),(9,int z.1)]) (fun z=>eP { I with vw:=z.2.2 } z.2.1 s)
  (fun z=>DvOk z.2.1/\DvIn z.2.1/\gG z.2.1 (2+(z.1:Int)) (A.drop (64*z.1))=Y9 x s r/\z.2.1.ws.length<=1000+z.1/\z.1<=5000/\z.2.1.n=x.n) (fun z=>5000-z.1) (s.l.length / 64,x,I.vw) ⟨rfl,rfl,rfl,rfl,trivial⟩ slr ⟨hx,hi,hcm.symm,by dsimp only;omega,by dsimp only;omega,rfl⟩ ?_
 rintro⟨i,y,v⟩ ⟨hy,hyi,hpt,hyw,hi5,hyn⟩;dsimp only at hy hyi hpt hyw hi5 hyn ⊢;by_cases hlt:64*i<A.length
 ·have hpf:=a1f (all:=A) (i:=i) (p:=p) hlt hz hp0;rw[a0U hlt] at hpt;have hpl:=LC (A.drop (64*i));repeat' first|refine Zz ?_|intro _
  apply u7 [];exact rfl;exact rfl;kernel_rfl
  ·intro _ _;refine Q7 (64*i) (64*i+64) ?_;rw[List.drop_take,show 64*i+64-64*i=64 by omega,hpf];exact j4 (o7 rfl rfl)
  repeat' first|refine Zz ?_|intro _
  apply V8 [1,2,3];exact rfl;exact rfl;kernel_rfl;kernel_rfl;intro _ _;refine R6 (Jj (I:={ I.toR6I with vw:=v }) (x:=y) (a:=2+(i:Int)) (s:=K9 (A.drop (64*i))) hy.lf om hy.n) (fun u m1 hu=>?_);obtain⟨rfl,v',rfl⟩:=hu;refine j4 (U4 (I7 { I.toR6I with vw:=v' } (K4 y (2+(i:Int)) (K9 (A.drop (64*i)))).1) [] rfl rfl lpr rfl ?_);have hy2:DvOk (K4 y (2+(i:Int)) (K9 (A.drop (64*i)))).1:=yE hy;have hy3:DvIn (K4 y (2+(i:Int)) (K9 (A.drop (64*i)))).1:=Lb hyi;have hw2:=GY (x:=y) (a:=2+(i:Int)) (s:=K9 (A.drop (64*i)));have hn2:(K4 y (2+(i:Int)) (K9 (A.drop (64*i)))).1.n=y.n:=a5o;generalize K4 y (2+(i:Int)) (K9 (A.drop (64*i)))=q at *;obtain⟨y',e⟩:=q;dsimp only at hpt hy2 hy3 hw2 hn2 ⊢;by_cases he0:e=0
  ·subst he0;rw[if_pos rfl] at hpt;repeat' first|refine Zz ?_|intro _
   refine o6 (i+1,y',v') ⟨rfl,rfl,rfl,rfl,trivial⟩ slr ⟨hy2,hy3,?_,by dsimp only;omega,by dsimp only;omega,hn2.trans hyn⟩ (by dsimp only;omega);rw[<- hpt,show 2+((i+1:Nat):Int)=2+(i:Int)+1 by omega]
  ·rw[if_neg he0] at hpt;rw[<- hpt,if_pos he0];repeat' first|refine Zz ?_|intro _
   exact o5 (eP { I with vw:=v' } y' { s with br:=true }) ⟨rfl,v',rfl⟩ slr
 rw[a0T hlt] at hpt;have hc2:aL x s r=R5 y:=by unfold aL;rw[<- hpt]
 rw[<- hpt,if_neg (show ¬ (((y,0):DvX × Int).2≠0) from fun h=>h rfl)];have hAb:(A.length:Int)=s.m.b+((y7 r).length:Int):=by omega
 have hM:MkB (F5 s r):=⟨by unfold F5;dsimp only;omega,by unfold F5;dsimp only;omega,by unfold F5;dsimp only;omega⟩;have hMe:(F5 s r).e=s.m.e+1:=rfl;repeat' first|refine Zz ?_|intro _
 refine X0 [_] (I7 { I.toR6I with vw:=v } y) [] (Jm (I:={ I.toR6I with vw:=v }) hy om hyi) (fun u m1 hu=>?_);obtain⟨rfl,v2,rfl⟩:=hu;have hy2:DvOk (R5 y).1:=NI hy;have hy3:DvIn (R5 y).1:=a5r hyi;have hw2:=Lc (x:=y);have hn2:(R5 y).1.n=y.n:=a5t;have hc3:aK x s r=K4 (R5 y).1 ((F5 s r).e%2) (J9 (F5 s r)):=by unfold aK;rw[hc2]
 rw[hc2];clear hc2 hpt hcm;generalize R5 y=q at *;obtain⟨y2,e2⟩:=q;dsimp only at hy2 hy3 hw2 hn2 hc3 ⊢;by_cases e20:e2=0
 rotate_left
 ·rw[if_pos e20];repeat' first|refine Zz ?_|intro _
  exact o5 (eP { I with vw:=v2 } y2 { s with br:=true }) ⟨rfl,v2,rfl⟩ slr
 subst e20;rw[if_neg (fun h=>h rfl)];repeat' first|refine Zz ?_|intro _
 obtain⟨M,hM0⟩:∃ M,F5 s r=M:=⟨_,rfl⟩;have hMA:AV.agg 3 [int (s.m.e+1),int (A.length:Int),int (s.m.c+1)]=cZ M:=by
  rw[hAb,<- hM0];rfl
 rw[hMA];rw[hM0] at hM hMe hc3;have hpk:=FN M;repeat' first|refine Zz ?_|intro _
 rw[<- hMe];apply V8 [1,2,3];exact rfl;exact rfl;kernel_rfl;kernel_rfl;intro _ _;refine R6 (Jj (I:={ I.toR6I with vw:=v2 }) (x:=y2) (a:=M.e%2) (s:=J9 M) hy2.lf om hy2.n) (fun u m1 hu=>?_);obtain⟨rfl,v3,rfl⟩:=hu;refine j4 (U4 (I7 { I.toR6I with vw:=v3 } (K4 y2 (M.e%2) (J9 M)).1) [] rfl rfl lpr rfl ?_);have hz2:DvOk (K4 y2 (M.e%2) (J9 M)).1:=yE hy2;have hz3:DvIn (K4 y2 (M.e%2) (J9 M)).1:=Lb hy3;have hzw:=GY (x:=y2) (a:=M.e%2) (s:=J9 M);have hc4:bM x s r=R5 (K4 y2 (M.e%2) (J9 M)).1:=by unfold bM;rw[hc3]
 rw[hc3];clear hc3;generalize K4 y2 (M.e%2) (J9 M)=q at *;obtain⟨y3,e3⟩:=q;dsimp only at hz2 hz3 hzw hc4 ⊢;by_cases e30:e3=0
 rotate_left
 ·rw[if_pos e30];repeat' first|refine Zz ?_|intro _
  refine o5 (eP { I with vw:=v3 } y3 { s with br:=true }) ⟨rfl,v3,rfl⟩ ?_;exact r9
 subst e30;rw[if_neg (fun h=>h rfl)];repeat' first|refine Zz ?_|intro _
 refine X0 [_] (I7 { I.toR6I with vw:=v3 } y3) [_] (Jm (I:={ I.toR6I with vw:=v3 }) hz2 om hz3) (fun u m1 hu=>?_);obtain⟨rfl,v4,rfl⟩:=hu;rw[hc4];clear hc4;generalize R5 y3=q at *;obtain⟨y4,e4⟩:=q;dsimp only;by_cases e40:e4=0
 rotate_left
 ·rw[if_pos e40];repeat' first|refine Zz ?_|intro _
  refine o5 (eP { I with vw:=v4 } y4 { s with br:=true }) ⟨rfl,v4,rfl⟩ ?_;exact r9
 subst e40;rw[if_neg (fun h=>h rfl)];repeat' first|refine Zz ?_|intro _
 rw[hM0];refine o5 (eP { I with vw:=v4 } y4 ⟨M,A,s.br⟩) ⟨rfl,v4,by rw[hbr]⟩ ?_;exact r9
end Go.Proofs.YtocpacdnjbjjmaaGreatDoor

namespace Go.Proofs.YtocpacdnjbjjmaaGreatDoor
open Go Go.RowKit Tw Av Go.Proofs.Tryz
instance b6v {h t:Int}{l:List Bs}{xs:List AV}{id:Option Value}[hx:Strs xs l]:Ans prog GL 46 [.agg 3 [int h,int t,.sl 1 xs id]] ((h<=9223372036854775807/\t<=9223372036854775807)/\l.length<=8000000) (str (yN h t l)):=⟨fun hp=>by
 obtain⟨⟨h1,h2⟩,h3⟩:=hp;have h':=hx.out;subst h';refine qE func46 rfl ntmps46 rfl (fun _ hs=>?_);repeat' first|refine Zz ?_|intro _
 refine d9 ?_;rfl⟩
instance b6u {h t:Int}{l:List Bs}{xs:List AV}{id:Option Value}[hx:Strs xs l]:Ans prog GL 86 [.agg 3 [int h,int t,.sl 1 xs id]] (BkG ⟨h,t,l⟩) (int 0):=⟨fun hp=>by
 obtain⟨hh,ht,hl,hs6⟩:=hp;dsimp only at hh ht hl hs6;have h:=hx.out;subst h;have hm:(l.map str).length=l.length:=llm _;refine qE func86 rfl ntmps86 rfl (fun _ hs=>?_);repeat' first|refine Zz ?_|intro _
 rename_i g1;refine z8 (α:=Nat) (fun i=>[(1,ptr g1),(3,int i)]) (fun i=>[.var g1 63 (.agg 3 [int h,int t,.sl 1 (l.map str) id])])
  (fun i=>i<=l.length) (fun i=>l.length-i) 0 ⟨rfl,rfl,trivial⟩ slr (Nat.zero_le _) ?_
 intro i hi;by_cases hil:i<l.length
 ·have h6:=hs6 _ (List.getElem_mem hil);repeat' first|refine Zz ?_|intro _
  refine o6 (i+1) ⟨rfl,rfl,trivial⟩ slr hil om
 ·repeat' first|refine Zz ?_|intro _
  refine d9 ?_;rfl⟩
instance b6t {b:BlkX}:Ans prog GL 38 [str (K5 b)] (BkG b) (.tup [.agg 3 [int b.h,int b.t,.sl 1 (b.x.map str) none],int 0]):=⟨fun hb=>by
 have hp:BkG ⟨b.h,b.t,b.x⟩:=hb;have hl:=Om b;obtain⟨e1,e2,e3⟩:=bk_rd hb;obtain⟨f1,f2,f3⟩:=Oj hb;obtain⟨k1,k2,k3⟩:=Oi hb;have l1:(D8 116 b.t++O7 120 b.x).length<=1000000000:=Nat.le_trans LenLe.out dc;have l2:(O7 120 b.x).length<=1000000000:=Nat.le_trans LenLe.out dc;generalize hS:K5 b=S at *;generalize hS1:D8 116 b.t++O7 120 b.x=S1 at *;generalize hS2:O7 120 b.x=S2 at *;refine qE func38 rfl ntmps38 rfl (fun _ hs=>?_);repeat' first|refine Zz ?_|intro _
 rw[e1,e2,e3];repeat' first|refine Zz ?_|intro _
 rw[f1,f2,f3];repeat' first|refine Zz ?_|intro _
 rw[k1,k2,k3,show P5 [] false=0 from rfl];repeat' first|refine Zz ?_|intro _
 refine d9 ?_;rfl⟩
end Go.Proofs.YtocpacdnjbjjmaaGreatDoor

namespace Go.Proofs.YtocpacdnjbjjmaaGreatDoor
open Go Go.RowKit Tw Av
def K19 (k:Int):Prop:=k=1\/k=2\/k=3\/k=4\/k=13\/k=14
attribute [local irreducible] E5 dY rF rD CE zJ zP AB
end Go.Proofs.YtocpacdnjbjjmaaGreatDoor

namespace Go.Proofs.YtocpacdnjbjjmaaGreatDoor
open Go Go.RowKit Tw Av Go.Proofs.Tryz
attribute [local irreducible] V6 O0
theorem SE {s:Bs}(h:H9 s=true):s.length<=32:=by
 unfold H9 at h;rw[bet,decide_eq_true_iff] at h;exact h.2.2
theorem a0i (s:Bs):(kD s).o.length<=32/\(kD s).q.length<=32/\(kD s).p.length<=32/\(kD s).s<=4:=by
 unfold kD;split
 ·rename_i h;unfold xH at h;rw[bet] at h;have h:=h.2;unfold fM at h;simp only[Bool.and_eq_true,decide_eq_true_eq] at h;obtain⟨h1,h2,h3,h4⟩:=h;refine⟨SE h2,SE h3,?_,h1.2⟩;split at h4
  ·rw[of_decide_eq_true h4];simp
  ·exact SE h4
 ·decide
theorem Kv (d:List Ent)(k i:Bs):(H5 d k i).o.length<=32/\(H5 d k i).q.length<=32/\(H5 d k i).p.length<=32/\(H5 d k i).s<=4:=a0i _
instance b6y {d:List Ent}{o:Bs}{xs:List AV}{id:Option Value}[hx:Ents xs d]:Ans prog GL 203 [.sl 2 xs id,str [72],str o] (DOk d) (.tup [str (H5 d [75] o).o,j3 (O0 d [75] o)]):=⟨fun hd=>by
 refine qE func203 rfl ntmps203 rfl (fun _ hs=>?_);repeat' first|refine Zz ?_|intro _
 refine d9 ?_;rfl⟩
end Go.Proofs.YtocpacdnjbjjmaaGreatDoor

namespace Go.Proofs.YtocpacdnjbjjmaaGreatDoor
open Go Go.RowKit Tw Av
def JV (d:List Ent)(x:Pkt):Out18:=pQ (mM d (goes d x)).1 (Z7 [80] x.s (goes d x).q) (nD (goes d x))
def zO (d:List Ent)(x:Pkt):Out18:=pQ (JV d x).1 (J3 [78] x.s) (D8 110 ((goes d x).q+1))
def EI (d:List Ent)(x:Pkt):Out18:=
 if O0 d [72] x.s=false then fQ 12 else if (H5 d [72] x.s).s≠3 then fQ 13 else if dJ (goes d x)=false then fQ 1
 else if wH d x.s=false\/V6 d (gJ d x.s)=false then fQ 12
 else if jH (goes d x) (eU (aA d (gJ d x.s)).l).h (eU (aA d (gJ d x.s)).l).t=true then fQ 21
 else if (mM d (goes d x)).2≠0 then fQ (mM d (goes d x)).2
 else if (JV d x).2.e≠0 then JV d x else if (zO d x).2.e≠0 then zO d x else ((zO d x).1,⟨(zO d x).2.e,(goes d x).q,(zO d x).2.a⟩)
def KV (d:List Ent)(x:TxX):Out18:=pQ (if (bV d x.x).2=0 then (bV d x.x).1 else d) (Z7 [71] x.x.k x.x.q) (FE (IV d x.x))
def FD (d:List Ent)(x:TxX)(h t:Int):Out18:=
 if dJ x.x=false then fQ 1 else if O0 d [72] x.x.k=false then fQ 12 else if (H5 d [72] x.x.k).s≠3\/(H5 d [72] x.x.k).p≠x.x.s then fQ 13
 else if jH x.x h t=true then fQ 21 else if (gO d (Z7 [71] x.x.k x.x.q)).isSome=true then fQ 20 else if wH d x.x.k=false then fQ 12
 else if bY d (gJ d x.x.k) x.t t (Z7 [80] x.x.s x.x.q) (nD x.x) x.f≠0 then fQ (bY d (gJ d x.x.k) x.t t (Z7 [80] x.x.s x.x.q) (nD x.x) x.f)
 else ((KV d x).1,⟨(KV d x).2.e,(KV d x).2.q,IV d x.x⟩)
def a5j (d:List Ent)(x:Pkt)(b:Bool)(e:Int):Out18:=
 if O0 d [72] x.s=false then fQ 12 else if (H5 d [72] x.s).s≠3\/(H5 d [72] x.s).p≠x.k then fQ 13
 else if gO d (Z7 [80] x.s x.q)≠some (nD x) then fQ 12 else if wH d x.s=false then fQ 12
 else if e≠0 then fQ e else if b=true/\(wL d x).2≠0 then fQ (wL d x).2
 else (jM (if b=true then (wL d x).1 else d) (Z7 [80] x.s x.q),vM)
def edB (x:TxX):Bool:=if x.k=15 then decide (Rm x.a≠0) else true
def edE (d:List Ent)(x:TxX)(t:Int):Int:=if x.k=15 then bY d (gJ d x.x.s) x.t t (Z7 [71] x.x.k x.x.q) (FE x.a) x.f else YV d x t
def VE (d:List Ent)(x:TxX)(t:Int):Out18:=if dJ x.x=false\/(x.k=15/\Rn x.a=false) then fQ 1 else a5j d x.x (edB x) (edE d x t)
def NJ (d:List Ent)(x:TxX)(h t:Int):Out18:=
 if x.k=1\/x.k=2 then lT d x else if x.k=3\/x.k=4 then CJ d x t else if x.k=5\/x.k=6 then WO d x (decide (x.k=6)) t else if x.k=9\/x.k=10 then WP d x (decide (x.k=10)) t
 else if x.k=7\/x.k=8 then SF d x (decide (x.k=7)) t else if x.k=11\/x.k=12 then SH d x (decide (x.k=11)) t else if x.k=13 then EI d x.x else if x.k=14 then FD d x h t else if x.k=15\/x.k=16 then VE d x t else fQ 1
end Go.Proofs.YtocpacdnjbjjmaaGreatDoor

namespace Go.Proofs.YtocpacdnjbjjmaaGreatDoor
open Go Go.RowKit Tw Av Go.Proofs.Tryz
attribute [local irreducible] V6 O0 jH
theorem a1h {d:List Ent}{k v:Bs}(h:DOk d):DOk (pQ d k v).1:=by
 unfold pQ;split
 ·exact vP h
 ·exact .nil
instance b6A {d:List Ent}{x:TxX}{xs:List AV}{id:Option Value}[hx:Ents xs d]:Ans prog GL 141 [.sl 2 xs id,U0 x] (DOk d/\TxB x) (qA (EI d x.x)):=⟨fun hp=>by
 obtain⟨hd,hb⟩:=hp;have b1:=hb.d;have b2:=hb.s;have b3:=hb.f;have b4:=hb.g;obtain⟨l1,l2,l3,l4⟩:=Kv d [72] x.x.s;refine qE func141 rfl ntmps141 rfl (fun _ hs=>?_);repeat' first|refine Zz ?_|intro _
 unfold EI zO JV goes wH gJ;dsimp only;cases h0:O0 d [72] x.x.s
 ·rw[if_pos rfl];repeat' first|refine Zz ?_|intro _
  refine d9 ?_;rfl
 rw[if_neg (show ¬ true=false by decide)];repeat' first|refine Zz ?_|intro _
 by_cases h1:(H5 d [72] x.x.s).s=3
 rotate_left
 ·rw[if_pos h1,dT h1];repeat' first|refine Zz ?_|intro _
  refine d9 ?_;rfl
 rw[if_neg (nni h1),dZ (nni h1)];repeat' first|refine Zz ?_|intro _
 unfold nE;cases h2:dJ ⟨dP d x.x.s,x.x.s,(H5 d [72] x.x.s).p,x.x.d,x.x.a,x.x.f,x.x.g,x.x.h,x.x.t⟩
 ·rw[if_pos rfl,if_neg (show ¬ false=true by decide),dT (show (1:Int)≠0 by decide)];repeat' first|refine Zz ?_|intro _
  refine d9 ?_;rfl
 rw[if_neg (show ¬ true=false by decide),if_pos rfl,dZ (show ¬ (0:Int)≠0 by decide)];repeat' first|refine Zz ?_|intro _
 cases h3:O0 d [75] (H5 d [72] x.x.s).o
 ·rw[if_pos (.inl rfl)];repeat' first|refine Zz ?_|intro _
  refine d9 ?_;rfl
 repeat' first|refine Zz ?_|intro _
 cases h4:V6 d (H5 d [75] (H5 d [72] x.x.s).o).o
 ·rw[if_pos (.inr rfl)];repeat' first|refine Zz ?_|intro _
  refine d9 ?_;rfl
 rw[if_neg (show ¬ (true=false\/true=false) by decide)];repeat' first|refine Zz ?_|intro _
 cases h5:jH ⟨dP d x.x.s,x.x.s,(H5 d [72] x.x.s).p,x.x.d,x.x.a,x.x.f,x.x.g,x.x.h,x.x.t⟩ (eU (aA d (H5 d [75] (H5 d [72] x.x.s).o).o).l).h (eU (aA d (H5 d [75] (H5 d [72] x.x.s).o).o).l).t;rotate_left
 ·rw[if_pos rfl];repeat' first|refine Zz ?_|intro _
  refine d9 ?_;rfl
 rw[if_neg (show ¬ false=true by decide)];have q1:DOk d/\x.x.s.length<=1000000000/\(H5 d [72] x.x.s).p.length<=1000000000/\x.x.d.length<=1000000000/\x.x.f.length<=1000000000/\x.x.g.length<=1000000000:=⟨hd,om,om,om,om,om⟩;obtain⟨q3,q4,q5,q8⟩:dP d x.x.s<=1099511627776/\x.x.h<=1099511627776/\x.x.t<=1099511627776/\1<=dP d x.x.s:=Eo h2;have q6:DOk (mM d ⟨dP d x.x.s,x.x.s,(H5 d [72] x.x.s).p,x.x.d,x.x.a,x.x.f,x.x.g,x.x.h,x.x.t⟩).1:=ZY hd;have q7:DOk (pQ (mM d ⟨dP d x.x.s,x.x.s,(H5 d [72] x.x.s).p,x.x.d,x.x.a,x.x.f,x.x.g,x.x.h,x.x.t⟩).1 (Z7 [80] x.x.s (dP d x.x.s)) (nD ⟨dP d x.x.s,x.x.s,(H5 d [72] x.x.s).p,x.x.d,x.x.a,x.x.f,x.x.g,x.x.h,x.x.t⟩)).1:=a1h q6;repeat' first|refine Zz ?_|intro _
 by_cases h6:(mM d ⟨dP d x.x.s,x.x.s,(H5 d [72] x.x.s).p,x.x.d,x.x.a,x.x.f,x.x.g,x.x.h,x.x.t⟩).2=0
 rotate_left
 ·rw[if_pos h6,dT h6];repeat' first|refine Zz ?_|intro _
  refine d9 ?_;rfl
 rw[if_neg (nni h6),dZ (nni h6)];repeat' first|refine Zz ?_|intro _
 by_cases h7:(pQ (mM d ⟨dP d x.x.s,x.x.s,(H5 d [72] x.x.s).p,x.x.d,x.x.a,x.x.f,x.x.g,x.x.h,x.x.t⟩).1 (Z7 [80] x.x.s (dP d x.x.s)) (nD ⟨dP d x.x.s,x.x.s,(H5 d [72] x.x.s).p,x.x.d,x.x.a,x.x.f,x.x.g,x.x.h,x.x.t⟩)).2.e=0
 rotate_left
 ·rw[if_pos h7,dT h7];repeat' first|refine Zz ?_|intro _
  refine d9 ?_;rfl
 rw[if_neg (nni h7),dZ (nni h7)];repeat' first|refine Zz ?_|intro _
 by_cases h8:(pQ (pQ (mM d ⟨dP d x.x.s,x.x.s,(H5 d [72] x.x.s).p,x.x.d,x.x.a,x.x.f,x.x.g,x.x.h,x.x.t⟩).1 (Z7 [80] x.x.s (dP d x.x.s)) (nD ⟨dP d x.x.s,x.x.s,(H5 d [72] x.x.s).p,x.x.d,x.x.a,x.x.f,x.x.g,x.x.h,x.x.t⟩)).1 (J3 [78] x.x.s) (D8 110 (dP d x.x.s+1))).2.e=0
 rotate_left
 ·rw[if_pos h8,dT h8];repeat' first|refine Zz ?_|intro _
  refine d9 ?_;rfl
 rw[if_neg (nni h8),dZ (nni h8)];repeat' first|refine Zz ?_|intro _
 refine d9 ?_;rfl⟩
instance b6B {d:List Ent}{h t:Int}{x:TxX}{xs:List AV}{id:Option Value}[hx:Ents xs d]:Ans prog GL 142 [.sl 2 xs id,U0 x,int h,int t] (DOk d/\TxB x) (qA (FD d x h t)):=⟨fun hp=>by
 obtain⟨hd,hb⟩:=hp;have b1:=hb.d;have b2:=hb.s;have b3:=hb.f;have b4:=hb.g;have b5:=hb.k;have b6:DOk d/\x.f.m<=9223372036854775807:=⟨hd,hb.fm⟩;obtain⟨l1,l2,l3,l4⟩:=Kv d [72] x.x.k;have h':=hx.out;subst h';refine qE func142 rfl ntmps142 rfl (fun _ hs=>?_);repeat' first|refine Zz ?_|intro _
 unfold FD KV nE wH gJ;cases h2:dJ x.x
 ·rw[if_pos rfl,if_neg (show ¬ false=true by decide),dT (show (1:Int)≠0 by decide)];repeat' first|refine Zz ?_|intro _
  refine d9 ?_;rfl
 rw[if_neg (show ¬ true=false by decide),if_pos rfl,dZ (show ¬ (0:Int)≠0 by decide)];obtain⟨q3,q4,q5,q8⟩:=Eo h2;repeat' first|refine Zz ?_|intro _
 cases h0:O0 d [72] x.x.k
 ·rw[if_pos rfl];repeat' first|refine Zz ?_|intro _
  refine d9 ?_;rfl
 rw[if_neg (show ¬ true=false by decide)];repeat' first|refine Zz ?_|intro _
 by_cases h1:(H5 d [72] x.x.k).s=3
 rotate_left
 ·rw[if_pos (.inl h1),dT h1];repeat' first|refine Zz ?_|intro _
  refine d9 ?_;rfl
 rw[dZ (nni h1)];repeat' first|refine Zz ?_|intro _
 by_cases h1':(H5 d [72] x.x.k).p=x.x.s
 rotate_left
 ·rw[if_pos (.inr h1'),dT h1'];repeat' first|refine Zz ?_|intro _
  refine d9 ?_;rfl
 rw[if_neg (show ¬ ((H5 d [72] x.x.k).s≠3\/(H5 d [72] x.x.k).p≠x.x.s) by simp[h1,h1']),dZ (nni h1')];repeat' first|refine Zz ?_|intro _
 cases h3:jH x.x h t;rotate_left
 ·rw[if_pos rfl];repeat' first|refine Zz ?_|intro _
  refine d9 ?_;rfl
 rw[if_neg (show ¬ false=true by decide)];repeat' first|refine Zz ?_|intro _
 cases h4:(gO d (Z7 [71] x.x.k x.x.q)).isSome;rotate_left
 ·rw[if_pos rfl];repeat' first|refine Zz ?_|intro _
  refine d9 ?_;rfl
 rw[if_neg (show ¬ false=true by decide)];repeat' first|refine Zz ?_|intro _
 cases h5:O0 d [75] (H5 d [72] x.x.k).o
 ·rw[if_pos rfl];repeat' first|refine Zz ?_|intro _
  refine d9 ?_;rfl
 rw[if_neg (show ¬ true=false by decide)];repeat' first|refine Zz ?_|intro _
 by_cases h6:bY d (H5 d [75] (H5 d [72] x.x.k).o).o x.t t (Z7 [80] x.x.s x.x.q) (nD x.x) x.f=0
 rotate_left
 ·rw[if_pos h6,dT h6];repeat' first|refine Zz ?_|intro _
  refine d9 ?_;rfl
 rw[if_neg (nni h6),dZ (nni h6)];have p5:DOk d/\x.x.s.length<=400000000/\x.x.k.length<=400000000/\x.x.d.length<=400000000/\x.x.f.length<=400000000/\x.x.g.length<=400000000:=⟨hd,b2,b5,b1,b3,b4⟩;have q6:DOk (bV d x.x).1:=Cq hd;have q7:=a0j (d:=d) (x:=x.x);unfold IV;repeat' first|refine Zz ?_|intro _
 by_cases h7:(bV d x.x).2=0
 ·rw[if_pos h7,if_pos h7,dZ (nni h7)];repeat' first|refine Zz ?_|intro _
  refine d9 ?_;rfl
 ·rw[if_neg h7,if_neg h7,dT h7];have q9:(NE (bV d x.x).2).length<=1000000000:=by
   unfold NE;exact(by decide:2<=1000000000)
  repeat' first|refine Zz ?_|intro _
  refine d9 ?_;rfl⟩
end Go.Proofs.YtocpacdnjbjjmaaGreatDoor

namespace Go.Proofs.YtocpacdnjbjjmaaGreatDoor
open Go Go.RowKit Tw Av
attribute [local irreducible] V6 O0 jH lT CJ WO WP SF SH EI FD VE
attribute [local irreducible] NJ
end Go.Proofs.YtocpacdnjbjjmaaGreatDoor

namespace Go.Proofs.YtocpacdnjbjjmaaGreatDoor
open Go Go.RowKit Tw Av Go.Proofs.Tryz
attribute [local irreducible] V6 O0 jH lT CJ WO WP SF SH EI FD VE
theorem b6x {d:List Ent}{h t:Int}{x:TxX}:Ans prog GL 78 [.sl 2 (d.map C8) none,U0 x,int h,int t] (DOk d/\TxB x/\K19 x.k) (qA (NJ d x h t)):=⟨fun hp=>by
 obtain⟨hd,hb,hk⟩:=hp;have hq:DOk d/\TxB x:=⟨hd,hb⟩;refine qE func78 rfl ntmps78 rfl (fun _ hs=>?_);repeat' first|refine Zz ?_|intro _
 unfold NJ;rcases hk with h1|h1|h1|h1|h1|h1
 all_goals
  repeat first|rw[if_pos (show x.k=13 from h1)]|rw[if_pos (show x.k=14 from h1)]|rw[if_neg (show ¬ x.k=13 by omega)]|rw[if_pos (show x.k=1\/x.k=2 by omega)]|rw[if_neg (show ¬ (x.k=1\/x.k=2) by omega)]|rw[if_pos (show x.k=3\/x.k=4 by omega)]|rw[if_neg (show ¬ (x.k=3\/x.k=4) by omega)]|rw[if_neg (show ¬ (x.k=5\/x.k=6) by omega)]|rw[if_neg (show ¬ (x.k=9\/x.k=10) by omega)]|rw[if_neg (show ¬ (x.k=7\/x.k=8) by omega)]|rw[if_neg (show ¬ (x.k=11\/x.k=12) by omega)]
  repeat' first|refine Zz ?_|intro _
  refine d9 ?_;rfl⟩
attribute [local irreducible] NJ
instance b4s {k:Nat}:ImpT (.lit (.slice none 0 0)) (.sl k [] (some (.slice none 0 0))):=⟨ImpC.nilT⟩
theorem a3f {xs:List AV}:ImpC (.agg 3 [.sl 2 xs none,.lit (.slice none 0 0),.lit (.slice none 0 0)]) (.agg 3 [.sl 2 xs none,.sl 3 [] (some (.slice none 0 0)),.sl 15 [] (some (.slice none 0 0))]):=(inferInstance:ImpT _ _).imp
attribute [local irreducible] E5 J5 U7 F8 H5
theorem a5e {d:List Ent}{h:Int}{x:TxX}{r:Rep}(e:x.k=13):pY d h x r=⟨h,x.k,⟨r.q,x.x.s,(H5 d [72] x.x.s).p,x.x.d,x.x.a,x.x.f,x.x.g,x.x.h,x.x.t⟩,[]⟩:=by
 unfold pY;rw[if_pos e,if_neg (show ¬ x.k=14 by omega),if_neg (show ¬ x.k=15 by omega)]
theorem a5d {d:List Ent}{h:Int}{x:TxX}{r:Rep}(e:x.k=14):pY d h x r=⟨h,x.k,x.x,r.a⟩:=by
 unfold pY;rw[if_neg (show ¬ x.k=13 by omega),if_pos e]
theorem a5c {d:List Ent}{h:Int}{x:TxX}{r:Rep}(e:x.k=15):pY d h x r=⟨h,x.k,x.x,x.a⟩:=by
 unfold pY;rw[if_neg (show ¬ x.k=13 by omega),if_neg (show ¬ x.k=14 by omega),if_pos e]
theorem a5b {d:List Ent}{h:Int}{x:TxX}{r:Rep}(e:¬ x.k=13/\¬ x.k=14/\¬ x.k=15):pY d h x r=⟨h,x.k,x.x,[]⟩:=by
 unfold pY;rw[if_neg e.1,if_neg e.2.1,if_neg e.2.2]
set_option maxRecDepth 100000 in
theorem a4w {K:Int->Prop}(hDo:∀ {d:List Ent} {h t:Int} {x:TxX},Ans prog GL 35 [.sl 2 (d.map C8) none,U0 x,int h,int t] (DOk d/\TxB x/\K x.k) (.tup [Z9 (E5 d x h t).1,J6 (E5 d x h t).2]))
  {d:List Ent} {l:List Bs} {h t:Int} {xs ys:List AV} {id id2:Option Value} [hx:Ents xs d] [hy:Strs ys l]:Ans prog GL 87 [.sl 2 xs id2,.agg 3 [int h,int t,.sl 1 ys id]] (DOk d/\l.length<=1000000/\∀ s∈l,s.length<=1000000000/\(U7 (F8 s)=0->K (J5 (F8 s)).k))
   (.agg 3 [Z9 (M7 d ⟨h,t,l⟩).1,.sl 3 ((M7 d ⟨h,t,l⟩).2.1.map J6) none,.sl 15 ((M7 d ⟨h,t,l⟩).2.2.map V9) none]):=⟨fun hp=>by
 obtain⟨hd,hl,hk⟩:=hp;have h':=hx.out;subst h';have h':=hy.out;subst h';have hm:(l.map str).length=l.length:=llm _
 haveI hDoI:∀ {d:List Ent} {h t:Int} {x:TxX},Ans prog GL 35 [.sl 2 (d.map C8) none,U0 x,int h,int t] (DOk d/\TxB x/\K x.k) (.tup [Z9 (E5 d x h t).1,J6 (E5 d x h t).2]):=hDo
 refine qE func87 rfl ntmps87 rfl (fun _ hs=>?_);refine aM 0 Imp.sl ?_;repeat' first|refine Zz ?_|intro _
 rename_i g3 g4 g5;refine gM (g:=g5) a3f ?_;refine O5 (fun ok w h=>h.full 190 15 none 0) ?_;refine O5 (fun ok w h=>h.full 107 3 none 0) ?_;refine z8 (α:=Nat × Value × Value) (fun z=>[(3,ptr g3),(4,ptr g4),(5,ptr g5),(6,int z.1)])
  (fun z=>[.tail 107 3 z.2.1,.tail 190 15 z.2.2,.var g5 171 (.agg 3 [Z9 (Q8 h t (d,[],[]) (l.take z.1)).1,.sl 3 ((Q8 h t (d,[],[]) (l.take z.1)).2.1.map J6) (some z.2.1),.sl 15 ((Q8 h t (d,[],[]) (l.take z.1)).2.2.map V9) (some z.2.2)]),.var g4 171 (.agg 3 [.lit (.slice none 0 0),.lit (.slice none 0 0),.lit (.slice none 0 0)]),.var g3 63 (.agg 3 [int h,int t,.sl 1 (l.map str) id])])
  (fun z=>z.1<=l.length) (fun z=>l.length-z.1) (0,.slice none 0 0,.slice none 0 0) ⟨rfl,rfl,rfl,rfl,trivial⟩ ?_ (Nat.zero_le _) ?_
 ·exact List.Sublist.refl _
 rintro⟨i,v7,v8⟩ hi;dsimp only at hi ⊢;repeat' first|refine Zz ?_|intro _
 refine o9 (fun h1=>?_) (fun h1=>?_)
 ·have hil:i<l.length:=om
  have hq:=Aw (h:=h) (t:=t) (q:=(d,[],[])) hil;have hdq:DOk (Q8 h t (d,[],[]) (l.take i)).1:=KI hd;have hlq:=xD (h:=h) (t:=t) (l:=l.take i) (q:=(d,[],[]));have hls:l[i].length<=1000000000:=(hk _ (List.getElem_mem hil)).1;have hkk:=(hk _ (List.getElem_mem hil)).2;generalize Q8 h t (d,[],[]) (l.take i)=q at *;have hl1:q.2.1.length<=1000000:=by
   have:=hlq.1;simp only[List.length_take,List.length_nil] at this;omega
  have hl2:q.2.2.length<=1000000:=by
   have:=hlq.2;simp only[List.length_take,List.length_nil] at this;omega
  have hm1:(q.2.1.map J6).length=q.2.1.length:=llm _;have hm2:(q.2.2.map V9).length=q.2.2.length:=llm _;repeat' first|refine Zz ?_|intro _
  by_cases hE:U7 (F8 l[i])=0
  rotate_left
  ·have hq':=hq.trans (Au hE);repeat' first|refine Zz ?_|intro _
   refine I4 (fun v'=>?_);repeat' first|refine Zz ?_|intro _
   refine o6 (i+1,v',v8) ⟨rfl,rfl,rfl,rfl,trivial⟩ ?_ hil (by dsimp only;omega);dsimp only;rw[hq',List.map_append];exact r9
  ·rw[hE];have hx3:DOk q.1/\TxB (J5 (F8 l[i]))/\K (J5 (F8 l[i])).k:=⟨hdq,Ba _,hkk hE⟩;have hdo:DOk (E5 q.1 (J5 (F8 l[i])) h t).1:=VJ hdq;have hdo2:DOk (E5 q.1 (J5 (F8 l[i])) h t).1/\([72]:Bs).length<=1000000000:=⟨hdo,dc⟩;repeat' first|refine Zz ?_|intro _
   refine I4 (fun v'=>?_);repeat' first|refine Zz ?_|intro _
   by_cases h0:(E5 q.1 (J5 (F8 l[i])) h t).2.e=0
   rotate_left
   ·have hq':=hq.trans (KG hE (fun hh=>h0 hh.1));repeat' first|refine Zz ?_|intro _
    refine o6 (i+1,v',v8) ⟨rfl,rfl,rfl,rfl,trivial⟩ ?_ hil (by dsimp only;omega);dsimp only;rw[hq',List.map_append];exact r9
   by_cases h1:13<=(J5 (F8 l[i])).k
   rotate_left
   ·have hq':=hq.trans (KG hE (fun hh=>h1 hh.2));repeat' first|refine Zz ?_|intro _
    refine o6 (i+1,v',v8) ⟨rfl,rfl,rfl,rfl,trivial⟩ ?_ hil (by dsimp only;omega);dsimp only;rw[hq',List.map_append];exact r9
   have hq':=hq.trans (Ar hE h0 h1);by_cases h13:(J5 (F8 l[i])).k=13
   ·rw[a5e h13] at hq';repeat' first|refine Zz ?_|intro _
    refine I4 (fun v''=>?_);repeat' first|refine Zz ?_|intro _
    refine o6 (i+1,v',v'') ⟨rfl,rfl,rfl,rfl,trivial⟩ ?_ hil (by dsimp only;omega);dsimp only;rw[hq',List.map_append,List.map_append];exact r9
   by_cases h14:(J5 (F8 l[i])).k=14
   ·rw[a5d h14] at hq';repeat' first|refine Zz ?_|intro _
    refine I4 (fun v''=>?_);repeat' first|refine Zz ?_|intro _
    refine o6 (i+1,v',v'') ⟨rfl,rfl,rfl,rfl,trivial⟩ ?_ hil (by dsimp only;omega);dsimp only;rw[hq',List.map_append,List.map_append];exact r9
   by_cases h15:(J5 (F8 l[i])).k=15
   ·rw[a5c h15] at hq';repeat' first|refine Zz ?_|intro _
    refine I4 (fun v''=>?_);repeat' first|refine Zz ?_|intro _
    refine o6 (i+1,v',v'') ⟨rfl,rfl,rfl,rfl,trivial⟩ ?_ hil (by dsimp only;omega);dsimp only;rw[hq',List.map_append,List.map_append];exact r9
   rw[a5b ⟨h13,h14,h15⟩] at hq';repeat' first|refine Zz ?_|intro _
   refine I4 (fun v''=>?_);repeat' first|refine Zz ?_|intro _
   refine o6 (i+1,v',v'') ⟨rfl,rfl,rfl,rfl,trivial⟩ ?_ hil (by dsimp only;omega);dsimp only;rw[hq',List.map_append,List.map_append];exact r9
 ·have hi':i=l.length:=om
  subst hi';rw[List.take_length];repeat' first|refine Zz ?_|intro _
  refine E9 ?_;show Imp (.agg 3 [Z9 (Q8 h t (d,[],[]) l).1,.sl 3 ((Q8 h t (d,[],[]) l).2.1.map J6) (some v7),.sl 15 ((Q8 h t (d,[],[]) l).2.2.map V9) (some v8)]) (.agg 3 [Z9 (Q8 h t (d,[],[]) l).1,.sl 3 ((Q8 h t (d,[],[]) l).2.1.map J6) none,.sl 15 ((Q8 h t (d,[],[]) l).2.2.map V9) none]);exact ImpR.imp⟩
end Go.Proofs.YtocpacdnjbjjmaaGreatDoor
