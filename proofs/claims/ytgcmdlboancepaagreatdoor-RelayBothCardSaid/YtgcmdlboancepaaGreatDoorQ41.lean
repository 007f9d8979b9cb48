/- . -/
import Derived.Test.YtgcmdlboancepaaGreatDoorQ40
set_option maxHeartbeats 64000000
namespace Go.Proofs.Z
open Go Go.RowKit Tw Av Go.Proofs.Tryz
section
variable {x:DvX}
attribute [local irreducible] X6 lI M8
abbrev Ip (gd:Nat)(s:SlX):AV:=.agg 6 [ptr gd,fU s.m,str s.l,d9 s.br]
structure R7I extends R6I where
 gl:Nat
abbrev iT (I:R7I)(x:DvX)(s:SlX):List Av.Piece:=.var I.gl 235 (Ip I.gd s)::O0 I.toR6I x
attribute [local irreducible] Y8
theorem a5M {I:R7I}{s:SlX}(hn:0<=x.n/\x.n<=4096)(hl:s.l.length<=1099511627776):Av.Spec prog GL 186 [ptr I.gl] (iT I x s) λu m=>u=int (M3 x.n-s.l.length)/\m=iT I x s:=by
 have hr:-128<=M3 x.n/\M3 x.n<=1000000:=by unfold M3;omega
 have hnn:(x.n.toNat:Int)=x.n:=om
 refine ze func186 ntmps186 λ_ hs=>?_;repeat' first|refine Z ?_|intro
 refine l9 _ ⟨?_,rfl⟩ slr;unfold M3;rw[hnn];rfl
theorem a5N {I:R6I}{l:List Bs}(hx:DvOk x)(hw:x.ws.length<=1000000)(h0:nM x=0)(hl:X9 x (J3 x).b=M4 l)(hm:∀ s∈l,s.length<=1048576):Av.Spec prog GL 66 [ptr I.gd] (O0 I x) λu m=>∃ gl,u=.tup [ptr gl,.sl 1 (l.map str) none,int 0]/\m=iT ⟨I,gl⟩ x (iF x):=by
 have hn:=hx.n;have h2:¬ x.n<=2:=λh=>by unfold nM at h0;rw[if_pos h] at h0;cases h0
 have hon:x.on=true:=by
  cases h:x.on with
  | true=>rfl
  | false=>unfold nM at h0;rw[if_neg h2,if_pos h] at h0;cases h0
 have hr:¬ M3 x.n<(J3 x).b:=λh=>by unfold nM at h0;rw[if_neg h2,if_neg (by rw[hon];decide),if_pos h] at h0;cases h0
 have hA:((pR (X9 x (J3 x).b)).length:Int)=(J3 x).c:=by
  unfold nM at h0;rw[if_neg h2,if_neg (by rw[hon];decide),if_neg hr] at h0;by_cases h:BG (X9 x (J3 x).b)=[]/\((pR (X9 x (J3 x).b)).length:Int)=(J3 x).c
  ·exact h.2
  rw[if_neg h] at h0;cases h0
 rw[hl,(Wi hm).1] at hA;have hh0:iY x 0=true:=dT ⟨om,om⟩;have hh1:iY x 1=true:=dT ⟨om,om⟩;have hrm:M3 x.n<=262016:=by unfold M3;omega
 have hrn:M3 x.n=(x.n-2)*64:=rfl;have hbn:0<=(J3 x).b:=WE;have hnn:(x.n.toNat:Int)=x.n:=by omega
 refine ze func66 ntmps66 λ_ hs=>?_;repeat' first|refine Z ?_|intro
 refine iN [] (O0 I x) [] (XX hon hh0 hw hn.2) (λu m1 hu=>?_);obtain⟨rfl,rfl⟩:=hu;repeat' first|refine Z ?_|intro
 refine iN [] (O0 I x) [] (XX hon hh1 hw hn.2) (λu m1 hu=>?_);obtain⟨rfl,rfl⟩:=hu;repeat' first|refine Z ?_|intro
 rw[show vK (bO x 0) (bO x 1)=J3 x from rfl];repeat' first|refine Z ?_|intro
 rename_i g9;refine y9 (α:=Nat) (λk=>[(0,ptr I.gd),(9,ptr g9),(10,str (gD x k)),(11,int (2+(k:Int)))]) (λ_=>.var g9 197 (fU (J3 x))::O0 I x)
  (λk=>(k:Int)*64<(J3 x).b+64) (λk=>5000-k) 0 zc slr (by show ((0:Nat):Int)*64<(J3 x).b+64;omega) ?_
 intro k hk;have hsl:=CW hx k;by_cases hlt:((gD x k).length:Int)<(J3 x).b
 ·have hhk:iY x (2+(k:Int))=true:=dT ⟨om,om⟩;repeat' first|refine Z ?_|intro
  refine iN [_] (O0 I x) [] (XX hon hhk hw hn.2) (λu m1 hu=>?_);obtain⟨rfl,rfl⟩:=hu;have hrl:=QO hx (2+(k:Int));repeat' first|refine Z ?_|intro
  refine o9 (k+1) ⟨rfl,rfl,?_,?_,trivial⟩ slr om om
  ·rw[CV];rfl
  show some (int (2+(k:Int)+1))=some (int (2+((k+1:Nat):Int)));rw[show 2+(k:Int)+1=2+((k+1:Nat):Int) by omega]
 have hlg:(gD x k).take (J3 x).b.toNat=X9 x (J3 x).b:=YK hx om;have hll:(X9 x (J3 x).b).length<=1000000:=by
  rw[<- hlg,List.length_take];omega
 have hrc:(l.map str).length=l.length:=llm _;repeat' first|refine Z ?_|intro
 refine Z4 0 (J3 x).b.toNat ?_ (h2:=by omega) (h4:=by omega);rw[List.drop_zero,hlg];repeat' first|refine Z ?_|intro
 rw[hl];rw[hl] at hll;refine Be [str (M4 l)] (hc:=a5P) (hp:=⟨om,hm⟩) ?_;repeat' first|refine Z ?_|intro
 rename_i gl;have e:iF x=⟨J3 x,M4 l,false⟩:=by unfold iF;rw[hl]
 rw[e];refine l9 (iT ⟨I,gl⟩ x ⟨J3 x,M4 l,false⟩) ⟨gl,rfl,rfl⟩ ?_;exact u7
def DvIn (x:DvX):Prop:=∀ w∈x.ws,0<=w.1/\w.1<x.n
theorem Rf {a:Int}{s:Bs}(h:DvIn x):DvIn (O7 x a s).1:=by
 unfold O7;split
 ·exact h
 split
 ·exact h
 rename_i _ hh;have ha:0<=a/\a<x.n:=by
  cases hd:iY x a with
  | false=>exact absurd (.inl hd) hh
  | true=>exact of_decide_eq_true hd
 split
 all_goals
  intro w hw;rcases List.mem_append.1 (show w∈x.ws++[(a,s)] from hw) with hw|hw
  ·exact h w hw
  rw[List.mem_singleton.1 hw];exact ha
theorem a6Z (h:DvIn x):DvIn (aB x).1:=by
 unfold aB;split
 ·exact h
 split
 ·exact h
 intro w hw;exact absurd (show w∈([]:List (Int × Bs)) from hw) sm
theorem a5O {I:R7I}{s:SlX}{r:Bs}(hx:DvOk x)(hi:DvIn x)(hw:x.ws.length<=1000)(he:0<=s.m.e/\s.m.e<=1000000)(hb:s.m.b=s.l.length)(hb2:s.m.b<=1000000)(hc:0<=s.m.c/\s.m.c<=1000000)(hbr:s.br=false) :
  Av.Spec prog GL 95 [ptr I.gl,str r] (iT I x s) λu m=>u=int (lN x s r).2.2/\∃ v,m=iT { I with vw:=v } (lN x s r).1 (lN x s r).2.1:=by
 have hn:=hx.n;have hrm:M3 x.n=(x.n-2)*64:=rfl;refine ze func95 ntmps95 λ_ hs=>?_;repeat' first|refine Z ?_|intro
 rw[hbr];repeat' first|refine Z ?_|intro
 unfold lN;rw[if_neg (by rw[hbr];decide)];by_cases h1:1048576<r.length
 ·rw[if_pos h1,if_pos h1,if_pos h1];repeat' first|refine Z ?_|intro
  exact l9 (iT I x s) ⟨rfl,I.vw,rfl⟩ slr
 rw[if_neg h1,if_neg h1,if_neg h1];repeat' first|refine Z ?_|intro
 refine iN [] (iT I x s) [] (a5M hn om) (λu m1 hu=>?_);obtain⟨rfl,rfl⟩:=hu;rw[<- hb];by_cases h2:M3 x.n-s.m.b<(D9 r).length
 ·rw[if_pos h2];repeat' first|refine Z ?_|intro
  exact l9 (iT I x s) ⟨rfl,I.vw,rfl⟩ slr
 rw[if_neg h2];have hal:(s.l++D9 r).length=s.l.length+(D9 r).length:=lla;have hcm:bQ x s r=jU x (2+((s.l.length / 64:Nat):Int)) ((s.l++D9 r).drop (64*(s.l.length / 64))):=by
  unfold bQ;rw[a6U,hb,show (s.l.length:Int) / 64=((s.l.length / 64:Nat):Int) by omega]
 repeat' first|refine Z ?_|intro
 generalize hA:s.l++D9 r=A at *;obtain⟨p0,hp0,hp1⟩:∃ p0:Nat,p0<64/\(A.length+p0)%64=0:=⟨(64-A.length%64)%64,om,om⟩;refine y9 (α:=Nat) (λp=>[(0,ptr I.gl),(7,str A),(8,str (A++List.replicate p (0:UInt8)))]) (λ_=>iT I x s) (λp=>p<=p0) (λp=>p0-p) 0 ⟨rfl,rfl,by rw[List.replicate_zero,List.append_nil];rfl,trivial⟩ slr (Nat.zero_le _) ?_;intro p hp;have hlen:(A++List.replicate p (0:UInt8)).length=A.length+p:=by rw[lla,List.length_replicate]
 by_cases hz:(A.length+p)%64=0
 rotate_left
 ·have hp':p<p0:=by
   rcases Nat.lt_or_ge p p0 with h|h
   ·exact h
   exact absurd (show p=p0 by omega) (λe=>hz (e ▸ hp1))
  repeat' first|refine Z ?_|intro
  refine o9 (p+1) ⟨rfl,rfl,?_,trivial⟩ slr hp' om;rw[List.replicate_succ',<- laa];rfl
 obtain rfl:p=p0:=by omega
 have hbn:s.l.length<=262016:=om
 have hAn:A.length<=262016:=om
 repeat' first|refine Z ?_|intro
 refine y9 (α:=Nat × DvX × Value) (λz=>[(0,ptr I.gl),(7,str A),(8,str (A++List.replicate p (0:UInt8))),(9,int z.1)]) (λz=>iT { I with vw:=z.2.2 } z.2.1 s)
  (λz=>DvOk z.2.1/\DvIn z.2.1/\jU z.2.1 (2+(z.1:Int)) (A.drop (64*z.1))=bQ x s r/\z.2.1.ws.length<=1000+z.1/\z.1<=5000/\z.2.1.n=x.n) (λz=>5000-z.1) (s.l.length / 64,x,I.vw) zc slr ⟨hx,hi,hcm.symm,by dsimp only;omega,by dsimp only;omega,rfl⟩ ?_
 rintro⟨i,y,v⟩ ⟨hy,hyi,hpt,hyw,hi5,hyn⟩;dsimp only at hy hyi hpt hyw hi5 hyn ⊢;by_cases hlt:64*i<A.length
 ·have hpf:=a2y (all:=A) (i:=i) (p:=p) hlt hz hp0;rw[a2o hlt] at hpt;have hpl:=OT (A.drop (64*i));repeat' first|refine Z ?_|intro
  apply zf [];exact zi
  ·intro _ _;refine Z4 (64*i) (64*i+64) ?_;rw[List.drop_take,show 64*i+64-64*i=64 by omega,hpf];exact j3 (p9 rfl rfl)
  repeat' first|refine Z ?_|intro
  apply U2 [1,2,3];exact rfl;exact rfl;kernel_rfl;kernel_rfl;intro _ _;refine R7 (Po (I:={ I.toR6I with vw:=v }) (x:=y) (a:=2+(i:Int)) (s:=P8 (A.drop (64*i))) hy.lf om hy.n) (λu m1 hu=>?_);obtain⟨rfl,v',rfl⟩:=hu;refine j3 (N7 (O0 { I.toR6I with vw:=v' } (O7 y (2+(i:Int)) (P8 (A.drop (64*i)))).1) [] rfl rfl lpr rfl ?_);have hy2:DvOk (O7 y (2+(i:Int)) (P8 (A.drop (64*i)))).1:=CU hy;have hy3:DvIn (O7 y (2+(i:Int)) (P8 (A.drop (64*i)))).1:=Rf hyi;have hw2:=KZ (x:=y) (a:=2+(i:Int)) (s:=P8 (A.drop (64*i)));have hn2:(O7 y (2+(i:Int)) (P8 (A.drop (64*i)))).1.n=y.n:=a6W;generalize O7 y (2+(i:Int)) (P8 (A.drop (64*i)))=q at *;obtain⟨y',e⟩:=q;dsimp only at hpt hy2 hy3 hw2 hn2 ⊢;by_cases he0:e=0
  ·subst he0;rw[if_pos rfl] at hpt;repeat' first|refine Z ?_|intro
   refine o9 (i+1,y',v') zc slr ⟨hy2,hy3,?_,by dsimp only;omega,by dsimp only;omega,hn2.trans hyn⟩ (by dsimp only;omega);rw[<- hpt,show 2+((i+1:Nat):Int)=2+(i:Int)+1 by omega]
  rw[if_neg he0] at hpt;rw[<- hpt,if_pos he0];repeat' first|refine Z ?_|intro
  exact l9 (iT { I with vw:=v' } y' { s with br:=true }) ⟨rfl,v',rfl⟩ slr
 rw[a2n hlt] at hpt;have hc2:dU x s r=aB y:=by unfold dU;rw[<- hpt]
 rw[<- hpt,if_neg (show ¬ (((y,0):DvX × Int).2≠0) from λh=>h rfl)];have hAb:(A.length:Int)=s.m.b+((D9 r).length:Int):=by omega
 have hM:MkB (I5 s r):=⟨by unfold I5;dsimp only;omega,by unfold I5;dsimp only;omega,by unfold I5;dsimp only;omega⟩;have hMe:(I5 s r).e=s.m.e+1:=rfl;repeat' first|refine Z ?_|intro
 refine iN [_] (O0 { I.toR6I with vw:=v } y) [] (Ps (I:={ I.toR6I with vw:=v }) hy om hyi) (λu m1 hu=>?_);obtain⟨rfl,v2,rfl⟩:=hu;have hy2:DvOk (aB y).1:=QQ hy;have hy3:DvIn (aB y).1:=a6Z hyi;have hw2:=Rh (x:=y);have hn2:(aB y).1.n=y.n:=a7b;have hc3:dR x s r=O7 (aB y).1 ((I5 s r).e%2) (M8 (I5 s r)):=by unfold dR;rw[hc2]
 rw[hc2];clear hc2 hpt hcm;generalize aB y=q at *;obtain⟨y2,e2⟩:=q;dsimp only at hy2 hy3 hw2 hn2 hc3 ⊢;by_cases e20:e2=0
 rotate_left
 ·rw[if_pos e20];repeat' first|refine Z ?_|intro
  exact l9 (iT { I with vw:=v2 } y2 { s with br:=true }) ⟨rfl,v2,rfl⟩ slr
 subst e20;rw[if_neg (λh=>h rfl)];repeat' first|refine Z ?_|intro
 obtain⟨M,hM0⟩:∃ M,I5 s r=M:=⟨_,rfl⟩;have hMA:AV.agg 3 [int (s.m.e+1),int (A.length:Int),int (s.m.c+1)]=fU M:=by
  rw[hAb,<- hM0];rfl
 rw[hMA];rw[hM0] at hM hMe hc3;have hpk:=KA M;repeat' first|refine Z ?_|intro
 rw[<- hMe];apply U2 [1,2,3];exact rfl;exact rfl;kernel_rfl;kernel_rfl;intro _ _;refine R7 (Po (I:={ I.toR6I with vw:=v2 }) (x:=y2) (a:=M.e%2) (s:=M8 M) hy2.lf om hy2.n) (λu m1 hu=>?_);obtain⟨rfl,v3,rfl⟩:=hu;refine j3 (N7 (O0 { I.toR6I with vw:=v3 } (O7 y2 (M.e%2) (M8 M)).1) [] rfl rfl lpr rfl ?_);have hz2:DvOk (O7 y2 (M.e%2) (M8 M)).1:=CU hy2;have hz3:DvIn (O7 y2 (M.e%2) (M8 M)).1:=Rf hy3;have hzw:=KZ (x:=y2) (a:=M.e%2) (s:=M8 M);have hc4:gJ x s r=aB (O7 y2 (M.e%2) (M8 M)).1:=by unfold gJ;rw[hc3]
 rw[hc3];clear hc3;generalize O7 y2 (M.e%2) (M8 M)=q at *;obtain⟨y3,e3⟩:=q;dsimp only at hz2 hz3 hzw hc4 ⊢;by_cases e30:e3=0
 rotate_left
 ·rw[if_pos e30];repeat' first|refine Z ?_|intro
  refine l9 (iT { I with vw:=v3 } y3 { s with br:=true }) ⟨rfl,v3,rfl⟩ ?_;exact u7
 subst e30;rw[if_neg (λh=>h rfl)];repeat' first|refine Z ?_|intro
 refine iN [_] (O0 { I.toR6I with vw:=v3 } y3) [_] (Ps (I:={ I.toR6I with vw:=v3 }) hz2 om hz3) (λu m1 hu=>?_);obtain⟨rfl,v4,rfl⟩:=hu;rw[hc4];clear hc4;generalize aB y3=q at *;obtain⟨y4,e4⟩:=q;dsimp only;by_cases e40:e4=0
 rotate_left
 ·rw[if_pos e40];repeat' first|refine Z ?_|intro
  refine l9 (iT { I with vw:=v4 } y4 { s with br:=true }) ⟨rfl,v4,rfl⟩ ?_;exact u7
 subst e40;rw[if_neg (λh=>h rfl)];repeat' first|refine Z ?_|intro
 rw[hM0];refine l9 (iT { I with vw:=v4 } y4 ⟨M,A,s.br⟩) ⟨rfl,v4,by rw[hbr]⟩ ?_;exact u7
end

instance b8x {h t:Int}{l:List Bs}{xs:List AV}{id:Option Value}[hx:Strs xs l]:Ans prog GL 96 [.agg 3 [int h,int t,.sl 1 xs id]] ((h<=9223372036854775807/\t<=9223372036854775807)/\l.length<=8000000) (str (DR h t l)):=⟨λhp=>by
 obtain⟨⟨h1,h2⟩,h3⟩:=hp;have h':=hx.out;subst h';refine ze func96 ntmps96 λ_ hs=>?_;exact j4⟩
instance b8w {h t:Int}{l:List Bs}{xs:List AV}{id:Option Value}[hx:Strs xs l]:Ans prog GL 159 [.agg 3 [int h,int t,.sl 1 xs id]] (BkG ⟨h,t,l⟩) (int 0):=⟨λhp=>by
 obtain⟨hh,ht,hl,hs6⟩:=hp;dsimp only at hh ht hl hs6;have h:=hx.out;subst h;have hm:(l.map str).length=l.length:=llm _;refine ze func159 ntmps159 λ_ hs=>?_;repeat' first|refine Z ?_|intro
 rename_i g1;refine y9 (α:=Nat) (λi=>[(1,ptr g1),(3,int i)]) (λi=>[.var g1 129 (.agg 3 [int h,int t,.sl 1 (l.map str) id])])
  (λi=>i<=l.length) (λi=>l.length-i) 0 zc slr (Nat.zero_le _) ?_
 intro i hi;by_cases hil:i<l.length
 ·have h6:=hs6 _ (List.getElem_mem hil);repeat' first|refine Z ?_|intro
  refine o9 (i+1) zc slr hil om
 exact j4⟩
instance b8v {b:BlkX}:Ans prog GL 68 [str (M5 b)] (BkG b) (.tup [.agg 3 [int b.h,int b.t,.sl 1 (b.x.map str) none],int 0]):=⟨λhb=>by
 have hp:BkG ⟨b.h,b.t,b.x⟩:=hb;have hl:=Uy b;obtain⟨e1,e2,e3⟩:=bk_rd hb;obtain⟨f1,f2,f3⟩:=Uw hb;obtain⟨k1,k2,k3⟩:=Uv hb;have l1:(D7 116 b.t++O8 120 b.x).length<=1000000000:=Nat.le_trans LenLe.out dc;have l2:(O8 120 b.x).length<=1000000000:=Nat.le_trans LenLe.out dc;generalize hS:M5 b=S at *;generalize hS1:D7 116 b.t++O8 120 b.x=S1 at *;generalize hS2:O8 120 b.x=S2 at *;refine ze func68 ntmps68 λ_ hs=>?_;repeat' first|refine Z ?_|intro
 rw[e1,e2,e3];repeat' first|refine Z ?_|intro
 rw[f1,f2,f3];repeat' first|refine Z ?_|intro
 rw[k1,k2,k3,show U7 [] false=0 from rfl];exact j4⟩

def oI (c:ChX)(s:Bs):Int:=if c.dd=true then 13 else if 6000<s.length then 11 else if 16<=c.ws.length then 15 else 0
def EP (c:ChX)(s:Bs):ChX:=if oI c s=0 then { c with ws:=c.ws++[s] } else c
theorem a6k {I:ChI}{x:DvX}{s:SlX}{c:ChX}{t:Bs}(hw:c.ws.length<=1000000):Av.Spec prog GL 18 [ptr I.gc,str t] (gK I x s c) λu m=>u=int (oI c t)/\∃ v,m=gK { I with vt:=v } x s (EP c t):=by
 have hm:(c.ws.map str).length=c.ws.length:=llm _;refine ze func18 ntmps18 λ_ hs=>?_;repeat' first|refine Z ?_|intro
 unfold EP;by_cases hd:c.dd=true
 ·have he:oI c t=13:=by unfold oI;rw[if_pos hd]
  rw[he,if_neg dc];rw[hd];repeat' first|refine Z ?_|intro
  exact l9 (gK I x s c) ⟨rfl,I.vt,rfl⟩ slr
 have hd0:c.dd=false:=by simpa using hd
 by_cases h1:6000<t.length
 ·have he:oI c t=11:=by unfold oI;rw[if_neg hd,if_pos h1]
  rw[he,if_neg dc];rw[hd0];repeat' first|refine Z ?_|intro
  exact l9 (gK I x s c) ⟨rfl,I.vt,rfl⟩ slr
 by_cases h2:16<=c.ws.length
 ·have he:oI c t=15:=by unfold oI;rw[if_neg hd,if_neg h1,if_pos h2]
  rw[he,if_neg dc];rw[hd0];repeat' first|refine Z ?_|intro
  exact l9 (gK I x s c) ⟨rfl,I.vt,rfl⟩ slr
 have he:oI c t=0:=by unfold oI;rw[if_neg hd,if_neg h1,if_neg h2]
 rw[he,if_pos rfl];rw[hd0];repeat' first|refine Z ?_|intro
 refine H7 (λv'=>?_);repeat' first|refine Z ?_|intro
 rw[show c.ws.map str++[str t]=(c.ws++[t]).map str by rw[List.map_append];rfl,hd0];exact l9 _ ⟨rfl,v',rfl⟩ slr
theorem NS {d:List Ent}{b:BlkX}(h:DOk d):DOk (M7 d b).1:=NT h
theorem Qd {I:ChI}{x:DvX}{s:SlX}{c:ChX}{b:BlkX}{id:Option Value}(h1:c.hs.length<c.ms.length/\c.ms.length<=1000000)(h2:c.ev.length<=1000000)(hd:DOk (j5 c))(hl:b.x.length<=16)(hx:∀ s∈b.x,Tx20 s) :
  Av.Spec prog GL 57 [ptr I.gc,.agg 3 [int b.h,int b.t,.sl 1 (b.x.map str) id]] (gK I x s c) λu m=>u=.sl 3 ((M7 (j5 c) b).2.1.map P5) none/\∃ v1 v2 v3,m=gK { I with vm:=v1,vh:=v2,ve:=v3 } x s (dN c b):=by
 have hr:=Cy hd hl hx;have hr2:=NS (b:=b) hd;have hm1:(c.ms.map dA).length=c.ms.length:=llm _;have hm2:(c.hs.map Q7).length=c.hs.length:=llm _;have hm3:(c.ev.map Q0).length=c.ev.length:=llm _;have hr3:(M7 (j5 c) ⟨b.h,b.t,b.x⟩).1.length<=1000000:=Nat.le_trans hr2.l dc;have hr4:=(ET (h:=b.h) (t:=b.t) (l:=b.x) (q:=(j5 c,[],[]))).2;have hr5:(M7 (j5 c) ⟨b.h,b.t,b.x⟩).2.2.length<=16:=by
  have e:(M7 (j5 c) ⟨b.h,b.t,b.x⟩).2.2.length<=([]:List EvX).length+b.x.length:=hr4;simp only[List.length_nil] at e;omega
 refine ze func57 ntmps57 λ_ hs=>?_;repeat' first|refine Z ?_|intro
 apply dH [10];exact rfl;exact rfl;kernel_rfl
 ·intro _ _;refine fE ?_;exact j3 (dX rfl)
 ·exact rfl
 ·exact rfl
 repeat' first|refine Z ?_|intro
 apply zf [10];exact zi
 ·intro _ _;refine dE ?_;exact j3 (p9 rfl rfl)
 repeat' first|refine Z ?_|intro
 apply U2 [2];exact rfl;exact rfl;kernel_rfl;kernel_rfl;intro _ _;refine H7 (λv1=>?_);refine j3 (N7 [.tail 64 1 v1] [] rfl rfl lpr rfl ?_);repeat' first|refine Z ?_|intro
 apply zf [10];exact zi
 ·intro _ _;refine dE ?_;exact j3 (p9 rfl rfl)
 repeat' first|refine Z ?_|intro
 apply U2 [3];exact rfl;exact rfl;kernel_rfl;kernel_rfl;intro _ _;refine H7 (λv2=>?_);refine j3 (N7 [.tail 42 35 v2] [] rfl rfl lpr rfl ?_);repeat' first|refine Z ?_|intro
 refine H7 (λv3=>?_);repeat' first|refine Z ?_|intro
 rw[show c.ms.map dA++[dA (M7 (j5 c) ⟨b.h,b.t,b.x⟩).1]=(c.ms++[(M7 (j5 c) b).1]).map dA by rw[List.map_append];rfl,show c.hs.map Q7++[Q7 ⟨c.nm,b.h,b.t,uY (M7 (j5 c) ⟨b.h,b.t,b.x⟩).1⟩]=(c.hs++[KR c b]).map Q7 by rw[List.map_append];rfl,show c.ev.map Q0++(M7 (j5 c) ⟨b.h,b.t,b.x⟩).2.2.map Q0=(c.ev++(M7 (j5 c) b).2.2).map Q0 by rw[List.map_append]];refine l9 (gK { I with vm:=v1,vh:=v2,ve:=v3 } x s (dN c b)) ⟨rfl,v1,v2,v3,rfl⟩ ?_;exact u7

structure ChOk (x:DvX)(s:SlX)(c:ChX):Prop where
 dv:DvOk x
 wl:x.ws.length<=1000
 me:0<=s.m.e/\s.m.e<=1000000
 mb:0<=s.m.b/\s.m.b<=1000000
 mc:0<=s.m.c/\s.m.c<=1000000
 br:s.br=false
 hl:c.hs.length<c.ms.length/\c.ms.length<=100000
 ev:c.ev.length<=100000
 st:DOk (j5 c)
 ws:c.ws.length<=16
 tx:∀ s∈c.ws,Tx20 s
 tm:0<=X7 c/\X7 c<=1099511627776
def iK (c:ChX)(t:Int):BlkX:=⟨c.hs.length+1,max (min t 1099511627776) (X7 c),c.ws⟩
def Q3 (x:DvX)(s:SlX)(c:ChX)(t:Int):DvX × SlX × Int:=lN x s (M5 (iK c t))
def AU (x:DvX)(s:SlX)(c:ChX)(t:Int):ChX:=if (Q3 x s c t).2.2=0 then dN { c with ws:=[] } (iK c t) else { c with dd:=decide ((Q3 x s c t).2.2=14) }
def AR (x:DvX)(s:SlX)(c:ChX)(t:Int):List Rep:=if (Q3 x s c t).2.2=0 then (M7 (j5 c) (iK c t)).2.1 else []
theorem a4R {nm ky:Bs}{gs:Nat}{xs ys zs:List AV}{i j k:Option Value}{d:Bool}:ImpC (.agg 8 [str nm,str ky,ptr gs,.sl 1 xs i,.sl 35 ys j,.sl 15 zs k,.lit (.slice none 0 0),d9 d]) (.agg 8 [str nm,str ky,ptr gs,.sl 1 xs i,.sl 35 ys j,.sl 15 zs k,.sl 1 [] (some (.slice none 0 0)),d9 d]):=(inferInstance:ImpT _ _).imp
theorem Np {e:Int}:Imp (.tup [J2,int e]) (.tup [.sl 3 [] none,int e]):=(inferInstance:ImpR (.tup [.lit (.slice none 0 0),int e]) (.tup [.sl 3 [] none,int e])).imp
theorem a6m {I:ChI}{x:DvX}{s:SlX}{c:ChX}{t:Int}(h:ChOk x s c)(hd:c.dd=false):Av.Spec prog GL 20 [ptr I.gc,int t] (gK I x s c)
  λu m=>u=.tup [.sl 3 ((AR x s c t).map P5) none,int (Q3 x s c t).2.2]/\∃ v vm vh ve vt,m=gK { I with vw:=v,vm:=vm,vh:=vh,ve:=ve,vt:=vt } (Q3 x s c t).1 (Q3 x s c t).2.1 (AU x s c t):=by
 have hhl:=h.hl;have htm:=h.tm;have hws:=h.ws;have hm:(c.ws.map str).length=c.ws.length:=llm _;refine ze func20 ntmps20 λ_ hs=>?_;repeat' first|refine Z ?_|intro
 rw[hd];repeat' first|refine Z ?_|intro
 apply dH [9];exact rfl;exact rfl;kernel_rfl
 ·intro _ _;refine fE ?_;exact j3 (dX rfl)
 ·exact rfl
 ·exact rfl
 repeat' first|refine Z ?_|intro
 apply zf [9];exact zi
 ·intro _ _;refine dE ?_;exact j3 (p9 rfl rfl)
 repeat' first|refine Z ?_|intro
 apply U2 [5,6,7,8];exact rfl;exact rfl;kernel_rfl;kernel_rfl;intro _ _;refine R7 (a5y (I:=I.toSlI) (x:=x) (s:=s) (r:=M5 (iK c t)) h.dv h.wl h.me h.mb h.mc h.br) (λu m1 hu=>?_);obtain⟨rfl,v,rfl⟩:=hu;have hQ:lN x s (M5 (iK c t))=Q3 x s c t:=rfl;rw[hQ];refine j3 (N7 (R4 { I.toSlI with vw:=v } (Q3 x s c t).1 (Q3 x s c t).2.1) [] rfl rfl lpr rfl ?_);unfold AU AR;by_cases he:(Q3 x s c t).2.2=0
 rotate_left
 ·rw[if_neg he,if_neg he];repeat' first|refine Z ?_|intro
  refine U6 (.tup [.sl 3 (([]:List Rep).map P5) none,int (Q3 x s c t).2.2]) (gK { I with vw:=v } (Q3 x s c t).1 (Q3 x s c t).2.1 { c with dd:=decide ((Q3 x s c t).2.2=14) }) ?_ ⟨rfl,v,I.vm,I.vh,I.ve,I.vt,rfl⟩ ?_
  ·exact Np
  exact u7
 rw[if_pos he,if_pos he];repeat' first|refine Z ?_|intro
 refine Xc (g:=I.gc) a4R ?_;refine fF (λok w h=>h.full 9 1 none 0) ?_;refine Ay (gK { I with vw:=v,vt:=.slice none 0 0 } (Q3 x s c t).1 (Q3 x s c t).2.1 { c with ws:=[] }) (_::([_,_,_,_]++R4 { I.toSlI with vw:=v } (Q3 x s c t).1 (Q3 x s c t).2.1)) ?_ (List.perm_middle (l₁:=[_,_,_,_])) ?_;rotate_left
 ·exact u7
 refine R7 (Qd (c:={ c with ws:=[] }) (b:=iK c t) (id:=some I.vt) ⟨hhl.1,by dsimp only;omega⟩ (by have:=h.ev;dsimp only;omega) h.st h.ws h.tx) (λu m1 hu=>?_);obtain⟨rfl,v1,v2,v3,rfl⟩:=hu;repeat' first|refine Z ?_|intro
 rw[he];exact l9 _ ⟨rfl,v,v1,v2,v3,.slice none 0 0,rfl⟩ slr
end Go.Proofs.Z

namespace Av
open Go Go.RowKit Tw
section
variable {P:Program} {N:Nat} {ops:Array Oper} {Q:Exit->Act->World->Prop} {rest:List Oper} {s:Base} {e:Env} {m:List Piece} {d:Nat} {ty:TypeId} {pos:String} {af:Array Edge}
theorem Wx {T E:TypeId}{k b:Nat}[t:TyE P T E k b]{n:Nat}{parts:List (Nat × Operand)}{vals:List AV}(h:∀ A,AL P N ops Q s rest ((d,.sl k vals (some (.slice A n n)))::e) (.tail E k (.slice A n n)::m))(hx:evs e (parts.map (·.2))=some vals:=by exact rfl)
  (hi:parts.map (·.1)=List.range n:=by exact rfl) (hk:vals.all (λv=>Nat.beq v.size k)=true:=by exact rfl) (hn:vals.all U8=true:=by exact rfl) (hs:Nat.ble (n*k) 65536=true:=by exact rfl) (hn0:Nat.blt 0 n=true:=by exact rfl) (hd:Nat.blt d N=true:=by exact rfl) :
  AL P N ops Q s (⟨some d,.buildSlice T n parts.toArray,ty,pos,af,none⟩::rest) e m:=by
 have hkv:∀ v∈vals,v.size=k:=λz hz=>Nat.eq_of_beq_eq_true (List.all_eq_true.1 hk z hz);have hkp:0<k:=nlb t.k0;have hnp:0<n:=nlb hn0;have hnk:n*k<=65536:=nlb hs;refine kF (λok w A hS hA=>?_) hd;obtain⟨vs,hvs,hmap⟩:=KQ hA hx hn;have hpv:=PR.of_vs hvs;have hlv:=hpv.length;have hsv:=hpv.sizes hkv;have hlen:vs.length=n:=by
  have h1:((parts.map (·.2)).map A.eval).length=vs.length:=by rw[hlv,(hA.evals hx hn).length.symm]
  have h2:(parts.map (·.1)).length=n:=by rw[hi];simp
  simp at h1 h2;omega
 obtain⟨i,z,q1,q2,hzk,_,_⟩:=t.zero;have hzr:(zeroValue E).run P w=.ok z w:=by simp[zeroValue,typeInfo,q1,q2]
 subst hlen;have hcells:((Array.range (vs.length*k)).map (z.cells[· % z.cells.size]!))=(fl (List.replicate vs.length (.agg z.cells))).toArray:=by
  apply Array.ext';rw[QK z.cells (v:=.agg z.cells) rfl,hzk];simp
 have hset:=NI (z:=.agg z.cells) vs [] (λv hv=>by rw[hsv v hv];exact hzk);simp only[List.nil_append,List.length_nil] at hset;have hfill:=(GJ (place:=λi=>some (i*k,k)) (by
  intro i u hiu;obtain⟨hil,hie⟩:=List.getElem?_eq_some_iff.1 hiu;rw[List.getElem_replicate] at hie;subst hie;have hil':i<vs.length:=by simpa using hil
  rw[CR (k:=k) (λx hx=>by
   have:=List.mem_of_mem_take hx;rw[List.mem_replicate] at this;rw[this.2];exact hzk)]
  simp[Nat.min_eq_left (Nat.le_of_lt hil')];exact hzk.symm) hset).1
 have hE:=Ext.alloc w (.cells (fl vs).toArray E);have hblk:(w.alloc (.cells (fl vs).toArray E)).heap[w.heap.size]?=some (.cells (fl vs).toArray E (0,0)):=heap_alloc_new w _;have hst:=Ext.astp hE ok;refine⟨.sl k vals (some (.slice (some ⟨w.heap.size,0,none⟩) vs.length vs.length)),.slice (some ⟨w.heap.size,0,none⟩) vs.length vs.length,w.alloc (.cells (fl vs).toArray E),ok,_,?_,?_,(hS.ext hE).full E k (some ⟨w.heap.size,0,none⟩) vs.length,hst,h _⟩
 ·have h0:¬ vs.length*k > 2 ^ 24:=om
  have h1:¬ vs.length*k=0:=by
   have:=Nat.mul_pos hnp hkp;omega
  have hmap':(Array.map (λ(x:Nat × Operand)=>(x.fst,A.eval x.snd)) parts.toArray).toList=(List.range' 0 vs.length).zip vs:=by rw[hmap,hi,List.range_eq_range']
  simp only[execOp,Instr.buildSlice,Sem.run_bind,run_underlying t.l.out,Result.andThen_ok,run_sizeOf t.l.size,h0,h1,if_false,Sem.run_pure,hzr];rw[hmap',hcells,hfill];simp[newRow,newObj,Sem.run]
 refine RV.sl hlv (λv hv=>by injection hv with hv;rw[<- hv]) (Nat.le_refl _) (by
  have:vs.length<=vs.length*k:=Nat.le_mul_of_pos_right _ hkp;simp only[maxLen];omega) (λ_=>⟨w.heap.size,0,fl vs,rfl,by rw[CR hsv],λj v hj=>?_,(hpv.cells).stp hst⟩) hkv
 rw[Nat.zero_add,cell_of_row _ _ _ _ _ _ hblk];exact⟨by simpa using hj,hS.fresh _ _ (Nat.le_refl _)⟩
end
end Av

namespace Go.Proofs.Z
open Go Go.RowKit Tw Av Go.Proofs.Tryz
section
variable {bs:List BlkX}{ky nm:Bs}{d:List Ent}
def O4 (l:List BlkX):Int:=((l.getLast?).map (·.t)).getD 0
structure BsG (bs:List BlkX):Prop where
 l:bs.length<=1000
 g:∀ b∈bs,BkG b/\∀ s∈b.x,Tx20 s
 h:∀ i (h:i<bs.length),bs[i].h=i+1/\O4 (bs.take i)<=bs[i].t
def KO (nm ky:Bs)(d:List Ent):ChX:=⟨nm,ky,[d],[],[],[],[],false⟩
def opC (nm ky:Bs)(d:List Ent)(bs:List BlkX):ChX:=bs.foldl dN (KO nm ky d)
structure OpI (nm ky:Bs)(bs:List BlkX)(c:ChX):Prop where
 nm:c.nm=nm
 ky:c.ky=ky
 hs:c.hs.length=bs.length
 ms:c.ms.length=bs.length+1
 bl:c.bl=bs
 ev:c.ev.length<=16*bs.length
 st:DOk (j5 c)
 tm:X7 c=O4 bs
 ws:c.ws=[]
 dd:c.dd=false
theorem De (l:List BlkX)(b:BlkX):O4 (l++[b])=b.t:=by
 unfold O4;rw[List.getLast?_append];rfl
theorem a2P {c:ChX}{b:BlkX}(h:OpI nm ky bs c)(hl:b.x.length<=16):OpI nm ky (bs++[b]) (dN c b):=by
 have hs:=h.hs;have hm:=h.ms;have hr:j5 (dN c b)=(M7 (j5 c) b).1:=by
  unfold j5 dN;dsimp only;rw[lla,List.length_singleton,List.getD_eq_getElem?_getD,List.getElem?_append_right om,show c.hs.length+1-c.ms.length=0 by omega];rfl
 have hev:=(ET (h:=b.h) (t:=b.t) (l:=b.x) (q:=(j5 c,[],[]))).2;refine⟨h.nm,h.ky,?_,?_,?_,?_,?_,?_,h.ws,h.dd⟩
 ·unfold dN;dsimp only;rw[lla,lla,hs];rfl
 ·unfold dN;dsimp only;rw[lla,lla,hm];rfl
 ·unfold dN;dsimp only;rw[h.bl]
 ·unfold dN;dsimp only;have:=h.ev;have e:(M7 (j5 c) b).2.2.length<=([]:List EvX).length+b.x.length:=hev;simp only[List.length_append,List.length_nil,List.length_singleton] at e ⊢;omega
 ·rw[hr];exact NS h.st
 rw[De];unfold X7 dN;dsimp only;rw[List.getLast?_append];rfl
theorem a2O (hd:DOk d):OpI nm ky [] (KO nm ky d):=⟨rfl,rfl,rfl,rfl,rfl,Nat.le_refl _,hd,rfl,rfl,rfl⟩
theorem FE {b:BlkX}:opC nm ky d (bs++[b])=dN (opC nm ky d bs) b:=by
 unfold opC;rw[List.foldl_append];rfl
theorem OX {i:Nat}(h:i<bs.length):opC nm ky d (bs.take (i+1))=dN (opC nm ky d (bs.take i)) bs[i]:=by
 rw[<- List.take_append_getElem h,FE]
theorem FD {nm ky:Bs}{d:List Ent}(hd:DOk d){bs:List BlkX}(hb:BsG bs):∀ i,i<=bs.length->OpI nm ky (bs.take i) (opC nm ky d (bs.take i))
 | 0,_=>a2O hd
 | i+1,h=>by
  rw[OX h,<- List.take_append_getElem h];exact a2P (FD hd hb i om) (hb.g _ (List.getElem_mem _)).1.l
theorem a4S {gs:Nat}{xs:List AV}{i:Option Value}:ImpC (.agg 8 [str nm,str ky,ptr gs,.sl 1 xs i,J2,J2,J2,d9 false]) (.agg 8 [str nm,str ky,ptr gs,.sl 1 xs i,.sl 35 [] (some (.slice none 0 0)),.sl 15 [] (some (.slice none 0 0)),.sl 1 [] (some (.slice none 0 0)),d9 false]):=(inferInstance:ImpT _ _).imp
theorem a6l {I:DvI}{x:DvX}{gen:List Ent}{xs:List AV}{id:Option Value}(hxs:xs=gen.map D5)(h:1<=nm.length/\nm.length<=32/\ky.length<=64)(hx:DvOk x)(hw:x.ws.length<=1000)(h0:nM x=0)(hr:KC x=bs.map M5)(hb:BsG bs)(hg:gen.length<=1000)(hd:DOk (dO gen)) :
  Av.Spec prog GL 22 [ptr I.gd,str nm,str ky,.sl 2 xs id] (I1 I x) λu m=>∃ J:ChI,J.gd=I.gd/\J.gm=I.gm/\u=.tup [ptr J.gc,int 0]/\m=gK J x (iF x) (opC nm ky (dO gen) bs):=by
 subst hxs;have hne:nm≠[]:=by rintro rfl;simp at h
 have hbl:=hb.l;have hmb:((bs.map M5).map str).length=bs.length:=by rw[llm,llm]
 refine ze func22 ntmps22 λ_ hs=>?_;repeat' first|refine Z ?_|intro
 refine R7 (a5w hx om h0) (λu m1 hu=>?_);obtain⟨gs,rfl,rfl⟩:=hu;rw[hr];repeat' (first|refine eP ?_|refine K3 ?_|refine J8 ?_|intro _|simp only[List.set]|refine CP ?_|refine CQ ?_|refine uL ?_|refine wW ?_|fail)
 refine Wx (λA=>?_);repeat' first|refine Z ?_|intro
 rename_i gc;rw[hmb];refine dY (g:=gc) a4S ?_;refine P6 (λok w h=>h.full 9 1 none 0) ?_;refine P6 (λok w h=>h.full 106 15 none 0) ?_;refine P6 (λok w h=>h.full 42 35 none 0) ?_;refine MH (gK ⟨⟨I,gs⟩,gc,.slice A 1 1,.slice none 0 0,.slice none 0 0,.slice none 0 0⟩ x (iF x) (KO nm ky (dO gen))) ([_,_,_]++([_,_]++R4 ⟨I,gs⟩ x (iF x))) ?_ (List.perm_append_comm_assoc [_,_] [_,_,_] _) slr;refine y9 (α:=Nat × Value × Value × Value) (λz=>[(13,ptr gc),(14,d9 true),(48,.sl 1 ((bs.map M5).map str) none),(49,int bs.length),(50,int z.1)]) (λz=>gK ⟨⟨I,gs⟩,gc,z.2.1,z.2.2.1,z.2.2.2,.slice none 0 0⟩ x (iF x) (opC nm ky (dO gen) (bs.take z.1)))
  (λz=>z.1<=bs.length) (λz=>bs.length-z.1) (0,.slice A 1 1,.slice none 0 0,.slice none 0 0) zc slr (Nat.zero_le _) ?_
 rintro⟨i,vm,vh,ve⟩ hi;dsimp only at hi ⊢;have hI:=FD (nm:=nm) (ky:=ky) hd hb i hi;by_cases hil:i<bs.length
 ·obtain⟨hbg,hbx⟩:=hb.g _ (List.getElem_mem hil);have hbh:=hb.h i hil;have hst:=OX (nm:=nm) (ky:=ky) (d:=dO gen) hil;have hsl:=hI.hs;have hml:=hI.ms;have hev:=hI.ev;have htm:=hI.tm;rw[List.length_take,Nat.min_eq_left om] at hsl hml hev;have hgi:(bs.map M5)[i]'(by rw[llm];exact hil)=M5 bs[i]:=List.getElem_map ..;have hll:i<(bs.map M5).length:=by rw[llm];exact hil
  generalize opC nm ky (dO gen) (bs.take i)=c at *;repeat' first|refine Z ?_|intro
  rw[hgi];repeat' first|refine Z ?_|intro
  rw[dT (show bs[i].h=(c.hs.length:Int)+1 by omega)];repeat' first|refine Z ?_|intro
  rw[dT (show X7 c<=bs[i].t by omega)];repeat' first|refine Z ?_|intro
  rename_i g17;refine iN [_] (gK ⟨⟨I,gs⟩,gc,vm,vh,ve,.slice none 0 0⟩ x (iF x) c) [] (Qd (b:=bs[i]) (id:=none) ⟨om,om⟩ om hI.st hbg.l hbx) (λu m1 hu=>?_);obtain⟨rfl,v1,v2,v3,rfl⟩:=hu;rw[<- hst];repeat' first|refine Z ?_|intro
  exact o9 (i+1,v1,v2,v3) zc (List.sublist_cons_self _ _) hil (by dsimp only;omega)
 obtain rfl:i=bs.length:=by omega
 rw[List.take_length];repeat' first|refine Z ?_|intro
 refine l9 _ ⟨⟨⟨I,gs⟩,gc,vm,vh,ve,.slice none 0 0⟩,rfl,rfl,rfl,rfl⟩ slr
end
end Go.Proofs.Z

namespace Go.Proofs.Z
open Go Go.RowKit Tw Av

def K19 (k:Int):Prop:=k=1\/k=2\/k=3\/k=4\/k=13\/k=14
attribute [local irreducible] H9 gL AF zS pI qG qJ qW
end Go.Proofs.Z

namespace Go.Proofs.Z
open Go Go.RowKit Tw Av Go.Proofs.Tryz
attribute [local irreducible] Q4 M0
theorem VV {s:Bs}(h:J6 s=true):s.length<=32:=by
 unfold J6 at h;rw[bet,decide_eq_true_iff] at h;exact h.2.2
theorem a1D (s:Bs):(nJ s).o.length<=32/\(nJ s).q.length<=32/\(nJ s).p.length<=32/\(nJ s).s<=4:=by
 unfold nJ;split
 ·rename_i h;unfold BU at h;rw[bet] at h;have h:=h.2;unfold jO at h;simp only[Bool.and_eq_true,decide_eq_true_eq] at h;obtain⟨h1,h2,h3,h4⟩:=h;refine⟨VV h2,VV h3,?_,h1.2⟩;split at h4
  ·rw[of_decide_eq_true h4];simp
  exact VV h4
 decide
theorem QN (d:List Ent)(k i:Bs):(C9 d k i).o.length<=32/\(C9 d k i).q.length<=32/\(C9 d k i).p.length<=32/\(C9 d k i).s<=4:=a1D _
instance b8A {d:List Ent}{o:Bs}{xs:List AV}{id:Option Value}[hx:Ents xs d]:Ans prog GL 433 [.sl 2 xs id,str [72],str o] (DOk d) (.tup [str (C9 d [75] o).o,d9 (M0 d [75] o)]):=⟨λhd=>by
 refine ze func433 ntmps433 λ_ hs=>?_;exact j4⟩
end Go.Proofs.Z

namespace Go.Proofs.Z
open Go Go.RowKit Tw Av
section
variable {d:List Ent}{A:EndX->Bool}{i:Bs}{t:Int}{x:TxX}
def EM (d:List Ent)(x:Pkt):Out18:=pQ (eU d (goes d x)).1 (F6 [80] x.s (goes d x).q) (aM (goes d x))
def BP (d:List Ent)(x:Pkt):Out18:=pQ (EM d x).1 (I9 [78] x.s) (D7 110 ((goes d x).q+1))
def xF (d:List Ent)(x:Pkt):Out18:=
 if M0 d [72] x.s=false then fQ 12 else if (C9 d [72] x.s).s≠3 then fQ 13 else if X3 (goes d x)=false then fQ 1
 else if nU d x.s=false\/Q4 d (R9 d x.s)=false then fQ 12
 else if V9 (goes d x) (dK (U9 d (R9 d x.s)).l).h (dK (U9 d (R9 d x.s)).l).t=true then fQ 21
 else if (eU d (goes d x)).2≠0 then fQ (eU d (goes d x)).2
 else if (EM d x).2.e≠0 then EM d x else if (BP d x).2.e≠0 then BP d x else ((BP d x).1,⟨(BP d x).2.e,(goes d x).q,(BP d x).2.a⟩)
theorem VW {k v:Bs}(h:(P7 d k v).2=0):pQ d k v=((P7 d k v).1,oJ):=by
 unfold pQ;rw[if_pos h]
theorem VX {k v:Bs}(h:(P7 d k v).2≠0):pQ d k v=fQ (P7 d k v).2:=by
 unfold pQ;rw[if_neg h]
theorem YH {q:Out18}(h:q.2.e=0):nS d q=q:=by
 unfold nS;rw[if_pos h]
theorem ZR (h:M0 d [72] i=false):jP d i A=12:=by
 unfold jP;rw[if_pos h]
theorem ZP (h:M0 d [72] i=true)(h2:(C9 d [72] i).s≠3\/A (C9 d [72] i)=false):jP d i A=13:=by
 unfold jP;rw[if_neg (by rw[h];decide),if_pos h2]
theorem ZQ (h:M0 d [72] i=true)(h2:¬ ((C9 d [72] i).s≠3\/A (C9 d [72] i)=false)):jP d i A=0:=by
 unfold jP;rw[if_neg (by rw[h];decide),if_neg h2]
theorem a6A {x:Pkt}:nS d (xF d x)=qJ d x:=by
 unfold xF qJ;cases h1:M0 d [72] x.s
 ·rw[if_pos rfl,ZR h1,if_pos (show (12:Int)≠0 by decide)];exact aW dc
 rw[if_neg (show ¬ true=false by decide)];by_cases h2:(C9 d [72] x.s).s=3
 rotate_left
 ·rw[if_pos h2,ZP h1 (.inl h2),if_pos (show (13:Int)≠0 by decide)];exact aW dc
 rw[if_neg (nni h2),ZQ h1 (show ¬ ((C9 d [72] x.s).s≠3\/true=false) by simp[h2])];rw[if_neg (show ¬ (0:Int)≠0 by decide)];split
 ·exact aW dc
 split
 ·exact aW dc
 split
 ·exact aW dc
 unfold Y7;dsimp only;by_cases h3:(eU d (goes d x)).2=0
 rotate_left
 ·rw[if_pos h3,if_neg h3,aW h3];unfold iO;rw[if_neg h3]
 rw[if_neg (nni h3),if_pos h3];unfold BP;by_cases h4:(P7 (eU d (goes d x)).1 (F6 [80] x.s (goes d x).q) (aM (goes d x))).2=0
 rotate_left
 ·have e:EM d x=fQ _:=VX h4;rw[e,if_pos (show (fQ _).2.e≠0 from h4),if_neg h4,aW h4];unfold iO;rw[if_neg h4]
 have e:EM d x=_:=VW h4;rw[e,if_neg (show ¬ oJ.e≠0 from λh=>h rfl),if_pos h4];dsimp only;by_cases h5:(P7 (P7 (eU d (goes d x)).1 (F6 [80] x.s (goes d x).q) (aM (goes d x))).1 (I9 [78] x.s) (D7 110 ((goes d x).q+1))).2=0
 rotate_left
 ·rw[VX h5,if_pos (show (fQ _).2.e≠0 from h5),aW h5];unfold iO;rw[if_neg h5]
 rw[VW h5,if_neg (show ¬ oJ.e≠0 from λh=>h rfl),YH rfl];unfold iO;rw[if_pos h5];rfl
def JQ (d:List Ent)(x:TxX):Out18:=pQ (if (aI d x.x).2=0 then (aI d x.x).1 else d) (F6 [71] x.x.k x.x.q) (xP (xB d x.x))
def xO (d:List Ent)(x:TxX)(h t:Int):Out18:=
 if X3 x.x=false then fQ 1 else if M0 d [72] x.x.k=false then fQ 12 else if (C9 d [72] x.x.k).s≠3\/(C9 d [72] x.x.k).p≠x.x.s then fQ 13
 else if V9 x.x h t=true then fQ 21 else if (gO d (F6 [71] x.x.k x.x.q)).isSome=true then fQ 20 else if nU d x.x.k=false then fQ 12
 else if bK d (R9 d x.x.k) x.t t (F6 [80] x.x.s x.x.q) (aM x.x) x.f≠0 then fQ (bK d (R9 d x.x.k) x.t t (F6 [80] x.x.s x.x.q) (aM x.x) x.f)
 else ((JQ d x).1,⟨(JQ d x).2.e,(JQ d x).2.q,xB d x.x⟩)
theorem a6B {h:Int}:nS d (xO d x h t)=qW d x h t:=by
 unfold xO qW;split
 ·exact aW dc
 cases h1:M0 d [72] x.x.k
 ·rw[if_pos rfl,ZR h1,if_pos (show (12:Int)≠0 by decide)];exact aW dc
 rw[if_neg (show ¬ true=false by decide)];by_cases h2:(C9 d [72] x.x.k).s≠3\/(C9 d [72] x.x.k).p≠x.x.s
 ·rw[if_pos h2,ZP h1 (by rcases h2 with h2|h2;exact .inl h2;exact .inr (dZ h2)),if_pos (show (13:Int)≠0 by decide)];exact aW dc
 rw[if_neg h2,ZQ h1 (show ¬ ((C9 d [72] x.x.k).s≠3\/decide ((C9 d [72] x.x.k).p=x.x.s)=false) from λe=>h2 (by rcases e with e|e;exact .inl e;exact .inr (of_decide_eq_false e)))];rw[if_neg (show ¬ (0:Int)≠0 by decide)];split
 ·exact aW dc
 split
 ·exact aW dc
 split
 ·exact aW dc
 split
 ·rename_i h3;exact aW h3
 unfold JQ;by_cases h5:(P7 (if (aI d x.x).2=0 then (aI d x.x).1 else d) (F6 [71] x.x.k x.x.q) (xP (xB d x.x))).2=0
 ·rw[VW h5,YH rfl];unfold iO;rw[if_pos h5];rfl
 rw[VX h5];unfold iO nS;rw[if_neg h5,if_neg (show ¬ (fQ _).2.e=0 from h5)];rfl
def QM (d:List Ent)(x:Pkt)(b:Bool)(e:Int):Out18:=
 if M0 d [72] x.s=false then fQ 12 else if (C9 d [72] x.s).s≠3\/(C9 d [72] x.s).p≠x.k then fQ 13
 else if gO d (F6 [80] x.s x.q)≠some (aM x) then fQ 12 else if nU d x.s=false then fQ 12
 else if e≠0 then fQ e else if b=true/\(jZ d x).2≠0 then fQ (jZ d x).2
 else (mZ (if b=true then (jZ d x).1 else d) (F6 [80] x.s x.q),oJ)
theorem Qn {x:Pkt}{b:Bool}{e:Int}:nS d (QM d x b e)=vR d x b e:=by
 unfold QM vR;cases h1:M0 d [72] x.s
 ·rw[if_pos rfl,ZR h1,if_pos (show (12:Int)≠0 by decide)];exact aW dc
 rw[if_neg (show ¬ true=false by decide)];by_cases h2:(C9 d [72] x.s).s≠3\/(C9 d [72] x.s).p≠x.k
 ·rw[if_pos h2,ZP h1 (by rcases h2 with h2|h2;exact .inl h2;exact .inr (dZ h2)),if_pos (show (13:Int)≠0 by decide)];exact aW dc
 rw[if_neg h2,ZQ h1 (show ¬ ((C9 d [72] x.s).s≠3\/decide ((C9 d [72] x.s).p=x.k)=false) from λe=>h2 (by rcases e with e|e;exact .inl e;exact .inr (of_decide_eq_false e)))];rw[if_neg (show ¬ (0:Int)≠0 by decide)];by_cases h3:gO d (F6 [80] x.s x.q)=some (aM x)
 rotate_left
 ·rw[if_pos h3,if_pos (.inl h3)];exact aW dc
 rw[if_neg (nni h3)];cases h4:nU d x.s
 ·rw[if_pos rfl,if_pos (.inr rfl)];exact aW dc
 rw[if_neg (show ¬ true=false by decide),if_neg (show ¬ (gO d (F6 [80] x.s x.q)≠some (aM x)\/true=false) by simp[h3])];split
 ·rename_i h5;exact aW h5
 split
 ·rename_i h5;exact aW h5.2
 exact YH rfl
def KY (x:TxX):Bool:=if x.k=15 then decide (yP x.a≠0) else true
def KX (d:List Ent)(x:TxX)(t:Int):Int:=if x.k=15 then bK d (R9 d x.x.s) x.t t (F6 [71] x.x.k x.x.q) (xP x.a) x.f else wI d x t
def vS (d:List Ent)(x:TxX)(t:Int):Out18:=if X3 x.x=false\/(x.k=15/\wD x.a=false) then fQ 1 else QM d x.x (KY x) (KX d x t)
theorem a6E (h:x.k=15):nS d (vS d x t)=uN d x t:=by
 unfold vS uN;by_cases h1:X3 x.x=false\/wD x.a=false
 ·rw[if_pos h1,if_pos (by rcases h1 with h1|h1;exact .inl h1;exact .inr ⟨h,h1⟩)];exact aW dc
 rw[if_neg h1,if_neg (λe=>h1 (by rcases e with e|e;exact .inl e;exact .inr e.2)),KY,KX,if_pos h,if_pos h];exact Qn
theorem a6z (h:x.k=16):nS d (vS d x t)=tH d x t:=by
 have hn:¬ x.k=15:=by rw[h];decide
 unfold vS tH;by_cases h1:X3 x.x=false
 ·rw[if_pos h1,if_pos (.inl h1)];exact aW dc
 rw[if_neg h1,if_neg (λe=>by rcases e with e|e;exact h1 e;exact hn e.1),KY,KX,if_neg hn,if_neg hn];exact Qn
def QR (d:List Ent)(x:TxX)(h t:Int):Out18:=
 if x.k=1\/x.k=2 then DF d x else if x.k=3\/x.k=4 then uJ d x t else if x.k=5\/x.k=6 then QZ d x (decide (x.k=6)) t else if x.k=9\/x.k=10 then RA d x (decide (x.k=10)) t
 else if x.k=7\/x.k=8 then OV d x (decide (x.k=7)) t else if x.k=11\/x.k=12 then OW d x (decide (x.k=11)) t else if x.k=13 then xF d x.x else if x.k=14 then xO d x h t else if x.k=15\/x.k=16 then vS d x t else fQ 1
end
end Go.Proofs.Z
