/- . -/
import Derived.Test.YtjhnaegpchadiaaGreatDoorN36
set_option maxHeartbeats 64000000
namespace Go.Proofs.YtjhnaegpchadiaaGreatDoor
open Go Go.RowKit Tw Av Go.Proofs.Tryz
instance b3j {n:Int}:Ans prog GL 243 [int n] (0<=n/\n<=9223372036854775807) (str (X3 n.toNat)):=⟨fun hp=>by
 obtain⟨N,rfl⟩:∃ N:Nat,n=N:=⟨n.toNat,om⟩;rw[Int.toNat_natCast];refine qF func243 ntmps243 fun _ hs=>?_;repeat' first|refine Zz ?_|intro _
 refine y5 (α:=Nat) (fun j=>[(0,int N),(3,str ((X3 N).take j)),(4,int (7-(j:Int)))]) (fun _=>[]) (fun j=>j<=8) (fun j=>8-j) 0 ⟨rfl,rfl,rfl,trivial⟩ slr (Nat.zero_le _) ?_;intro j hj;by_cases hj':j<8
 ·have hst:=a3W (n:=N) hj';repeat' first|refine Zz ?_|intro _
  refine yS (k:=.i64) (n:=8*(7-j)) ?_ (hb:=by show (8:Int)*(7-(j:Int))=((8*(7-j):Nat):Int);omega) (hn:=Nat.ble_eq_true_of_le (show 8*(7-j)<=64 by omega));rw[JY,<- Int.natCast_ediv];refine wW ?_;rw[NL];repeat' first|refine Zz ?_|intro _
  refine Mj (l:=[UInt8.ofNat (N / 256 ^ (7-j))]) ?_ (hb:=(inferInstance:Byts ([UInt8.ofNat (N / 256 ^ (7-j))].map fun c=>AV.lit (o5 c)) _));repeat' first|refine Zz ?_|intro _
  refine o6 (j+1) ⟨rfl,?_,?_,trivial⟩ slr hj' om
  ·rw[hst];rfl
  ·show some (int (7-(j:Int)-1))=some (int (7-((j+1:Nat):Int)));rw[show 7-(j:Int)-1=7-((j+1:Nat):Int) by omega]
 ·obtain rfl:j=8:=by omega
  rw[List.take_of_length_le (Nat.le_of_eq (yP N))];repeat' first|refine Zz ?_|intro _
  exact d9 rfl⟩
instance c2B {n:Nat}:LenLe (X3 n) 8:=⟨by rw[yP];exact Nat.le_refl _⟩
instance b0s {n:Nat}{c:UInt8}:LenLe (List.replicate n c) n:=⟨by rw[List.length_replicate];exact Nat.le_refl _⟩
instance b3g {m:MkX}:Ans prog GL 152 [dE m] (MkB m) (str (K4 m)):=⟨fun hm=>by
 have he:=hm.e;have hb:=hm.b;have hc:=hm.c;refine qF func152 ntmps152 fun _ hs=>?_;repeat' first|refine Zz ?_|intro _
 apply x8 [];exact rfl;exact rfl;kernel_rfl
 ·intro _ _;refine GH ?_;exact j4 (o9 rfl rfl)
 repeat' first|refine Zz ?_|intro _
 exact d9 rfl⟩
instance b3h {s:Bs}:Ans prog GL 313 [str s] (s.length=8) (int (pW s)):=⟨fun h8=>by
 refine qF func313 ntmps313 fun _ hs=>?_;repeat' first|refine Zz ?_|intro _
 refine y5 (α:=Nat) (fun k=>[(0,str s),(3,int (bI s k:Nat)),(4,int k)]) (fun _=>[]) (fun k=>k<=8/\bI s k<=1099511627776) (fun k=>8-k) 0 ⟨rfl,rfl,rfl,trivial⟩ slr ⟨Nat.zero_le _,Nat.zero_le _⟩ ?_;rintro k ⟨hk,hN⟩;by_cases hk':k<8
 ·have hkc:k<s.length:=om
  have hst:=KT hkc;have hby:=s[k].toNat_lt;repeat' first|refine Zz ?_|intro _
  refine MQ (c:=s[k]) ?_ (hc:=by rw[Int.toNat_natCast];exact List.getElem?_eq_getElem hkc);by_cases hgt:1099511627776<bI s (k+1)
  ·rw[Xb h8 hk' hgt];repeat' first|refine Zz ?_|intro _
   exact d9 rfl
  ·repeat' first|refine Zz ?_|intro _
   refine o6 (k+1) ⟨rfl,?_,rfl,trivial⟩ slr ⟨hk',om⟩ om;rw[hst,Int.natCast_add,Int.natCast_mul];rfl
 ·obtain rfl:k=8:=by omega
  rw[<- Cn h8] at hN ⊢;repeat' first|refine Zz ?_|intro _
  refine d9 ?_;unfold pW;rw[if_pos hN];rfl⟩
attribute [local irreducible] K4
theorem QT (s:Bs):pW s<=1099511627776:=by
 unfold pW;split <;> omega
instance b3f {s:Bs}:Ans prog GL 224 [str s] True (.tup [dE ((T9 s).getD jE),j3 (T9 s).isSome]):=⟨fun _=>by
 refine qF func224 ntmps224 fun _ hs=>?_;repeat' first|refine Zz ?_|intro _
 by_cases h64:s.length=64
 rotate_left
 ·have hu:T9 s=none:=by
   unfold T9;rw[if_neg (fun h=>h64 h.1)]
  rw[hu];repeat' first|refine Zz ?_|intro _
  exact d9 rfl
 repeat' first|refine Zz ?_|intro _
 have c1:((s.take 8).drop 0).length=8:=by rw[List.length_drop,List.length_take];omega
 have c2:((s.take 16).drop 8).length=8:=by rw[List.length_drop,List.length_take];omega
 have c3:((s.take 24).drop 16).length=8:=by rw[List.length_drop,List.length_take];omega
 have b1:=QT ((s.take 8).drop 0);have b2:=QT ((s.take 16).drop 8);have b3:=QT ((s.take 24).drop 16);apply x8 [];exact rfl;exact rfl;kernel_rfl
 ·intro _ _;refine U7 0 8 ?_;exact j4 (o9 rfl rfl)
 repeat' first|refine Zz ?_|intro _
 apply x8 [];exact rfl;exact rfl;kernel_rfl
 ·intro _ _;refine U7 8 16 ?_;exact j4 (o9 rfl rfl)
 repeat' first|refine Zz ?_|intro _
 apply x8 [];exact rfl;exact rfl;kernel_rfl
 ·intro _ _;refine U7 16 24 ?_;exact j4 (o9 rfl rfl)
 repeat' first|refine Zz ?_|intro _
 have s1:(s.take 8).drop 0=(s.drop (8*0)).take 8:=sm
 have s2:(s.take 16).drop 8=(s.drop (8*1)).take 8:=by rw[List.drop_take]
 have s3:(s.take 24).drop 16=(s.drop (8*2)).take 8:=by rw[List.drop_take]
 have k1:pW ((s.take 8).drop 0)=if dC s 0<=1099511627776 then (dC s 0:Int) else -1:=by rw[s1];rfl
 have k2:pW ((s.take 16).drop 8)=if dC s 1<=1099511627776 then (dC s 1:Int) else -1:=by rw[s2];rfl
 have k3:pW ((s.take 24).drop 16)=if dC s 2<=1099511627776 then (dC s 2:Int) else -1:=by rw[s3];rfl
 clear s1 s2 s3;generalize pW ((s.take 8).drop 0)=n1 at *;generalize pW ((s.take 16).drop 8)=n2 at *;generalize pW ((s.take 24).drop 16)=n3 at *;by_cases h1:dC s 0<=1099511627776
 rotate_left
 ·rw[if_neg h1] at k1;rw[IG (i:=0) dc om];repeat' first|refine Zz ?_|intro _
  exact d9 rfl
 rw[if_pos h1] at k1;by_cases h2:dC s 1<=1099511627776
 rotate_left
 ·rw[if_neg h2] at k2;rw[IG (i:=1) dc om];repeat' first|refine Zz ?_|intro _
  exact d9 rfl
 rw[if_pos h2] at k2;by_cases h3:dC s 2<=1099511627776
 rotate_left
 ·rw[if_neg h3] at k3;rw[IG (i:=2) dc om];repeat' first|refine Zz ?_|intro _
  exact d9 rfl
 rw[if_pos h3] at k3;obtain⟨M,hM⟩:∃ M,rM s=M:=⟨_,rfl⟩;have hM1:M.e=n1:=by rw[k1,<- hM];rfl
 have hM2:M.b=n2:=by rw[k2,<- hM];rfl
 have hM3:M.c=n3:=by rw[k3,<- hM];rfl
 have hB:MkB M:=⟨om,om,om⟩;have hok:KH (rM s)=true:=by
  rw[hM];exact dT ⟨hB.e.2,hB.b.2,hB.c.2⟩
 have hu:T9 s=if K4 M=s then some M else none:=by
  unfold T9;rw[hM] at hok ⊢;by_cases h:K4 M=s
  ·rw[if_pos ⟨h64,hok,h⟩,if_pos h]
  ·rw[if_neg (fun e=>h e.2.2),if_neg h]
 rw[hu,<- hM1,<- hM2,<- hM3];clear hM1 hM2 hM3 k1 k2 k3 hu;have hb1:=hB.e;have hb2:=hB.b;have hb3:=hB.c;repeat' first|refine Zz ?_|intro _
 by_cases h:K4 M=s
 ·rw[if_pos h,dZ (nni h)];repeat' first|refine Zz ?_|intro _
  exact d9 rfl
 ·rw[if_neg h,dT h];repeat' first|refine Zz ?_|intro _
  exact d9 rfl⟩
attribute [local irreducible] T9 jE
instance b3i {a b:Bs}:Ans prog GL 125 [str a,str b] True (dE (rR a b)):=⟨fun _=>by
 refine qF func125 ntmps125 fun _ hs=>?_;repeat' first|refine Zz ?_|intro _
 unfold rR;refine o8 (fun h=>?_) (fun h=>?_)
 ·rw[if_pos h];repeat' first|refine Zz ?_|intro _
  exact d9 rfl
 ·rw[if_neg h];repeat' first|refine Zz ?_|intro _
  exact d9 rfl⟩
end Go.Proofs.YtjhnaegpchadiaaGreatDoor

namespace Go.Proofs.YtjhnaegpchadiaaGreatDoor
open Go Go.RowKit Tw Av Go.Proofs.Tryz
attribute [local irreducible] T9 jE K4
abbrev Ay (gd:Nat)(s:SlX):AV:=.agg 6 [ptr gd,dE s.m,str s.l,j3 s.br]
structure R7I extends R6I where
 gl:Nat
abbrev eZ (I:R7I)(x:DvX)(s:SlX):List Av.Piece:=.var I.gl 217 (Ay I.gd s)::K9 I.toR6I x
attribute [local irreducible] U9
theorem a1r {I:R7I}{x:DvX}{s:SlX}(hn:0<=x.n/\x.n<=4096)(hl:s.l.length<=1099511627776):Av.Spec prog GL 149 [ptr I.gl] (eZ I x s) fun u m=>u=int (J4 x.n-s.l.length)/\m=eZ I x s:=by
 have hr:-128<=J4 x.n/\J4 x.n<=1000000:=by unfold J4;omega
 have hnn:(x.n.toNat:Int)=x.n:=om
 refine qF func149 ntmps149 fun _ hs=>?_;repeat' first|refine Zz ?_|intro _
 refine l9 _ ⟨?_,rfl⟩ slr;unfold J4;rw[hnn];rfl
theorem a1s {I:R6I}{x:DvX}{l:List Bs}(hx:DvOk x)(hw:x.ws.length<=1000000)(h0:kW x=0)(hl:U1 x (H5 x).b=J7 l)(hm:∀ s∈l,s.length<=1048576):Av.Spec prog GL 57 [ptr I.gd] (K9 I x) fun u m=>∃ gl,u=.tup [ptr gl,.sl 1 (l.map str) none,int 0]/\m=eZ ⟨I,gl⟩ x (dX x):=by
 have hn:=hx.n;have h2:¬ x.n<=2:=fun h=>by unfold kW at h0;rw[if_pos h] at h0;cases h0
 have hon:x.on=true:=by
  cases h:x.on with
  | true=>rfl
  | false=>unfold kW at h0;rw[if_neg h2,if_pos h] at h0;cases h0
 have hr:¬ J4 x.n<(H5 x).b:=fun h=>by unfold kW at h0;rw[if_neg h2,if_neg (by rw[hon];decide),if_pos h] at h0;cases h0
 have hA:((mH (U1 x (H5 x).b)).length:Int)=(H5 x).c:=by
  unfold kW at h0;rw[if_neg h2,if_neg (by rw[hon];decide),if_neg hr] at h0;by_cases h:wY (U1 x (H5 x).b)=[]/\((mH (U1 x (H5 x).b)).length:Int)=(H5 x).c
  ·exact h.2
  ·rw[if_neg h] at h0;cases h0
 rw[hl,(Mo hm).1] at hA;have hh0:fD x 0=true:=dT ⟨om,om⟩;have hh1:fD x 1=true:=dT ⟨om,om⟩;have hrm:J4 x.n<=262016:=by unfold J4;omega
 have hrn:J4 x.n=(x.n-2)*64:=rfl;have hbn:0<=(H5 x).b:=QR;have hnn:(x.n.toNat:Int)=x.n:=by omega
 refine qF func57 ntmps57 fun _ hs=>?_;repeat' first|refine Zz ?_|intro _
 refine gJ [] (K9 I x) [] (SY hon hh0 hw hn.2) (fun u m1 hu=>?_);obtain⟨rfl,rfl⟩:=hu;repeat' first|refine Zz ?_|intro _
 refine gJ [] (K9 I x) [] (SY hon hh1 hw hn.2) (fun u m1 hu=>?_);obtain⟨rfl,rfl⟩:=hu;repeat' first|refine Zz ?_|intro _
 rw[show rR (aF x 0) (aF x 1)=H5 x from rfl];repeat' first|refine Zz ?_|intro _
 rename_i g9;refine y5 (α:=Nat) (fun k=>[(0,ptr I.gd),(9,ptr g9),(10,str (dJ x k)),(11,int (2+(k:Int)))]) (fun _=>.var g9 183 (dE (H5 x))::K9 I x)
  (fun k=>(k:Int)*64<(H5 x).b+64) (fun k=>5000-k) 0 ⟨rfl,rfl,rfl,rfl,trivial⟩ slr (by show ((0:Nat):Int)*64<(H5 x).b+64;omega) ?_
 intro k hk;have hsl:=yF hx k;by_cases hlt:((dJ x k).length:Int)<(H5 x).b
 ·have hhk:fD x (2+(k:Int))=true:=dT ⟨om,om⟩;repeat' first|refine Zz ?_|intro _
  refine gJ [_] (K9 I x) [] (SY hon hhk hw hn.2) (fun u m1 hu=>?_);obtain⟨rfl,rfl⟩:=hu;have hrl:=LP hx (2+(k:Int));repeat' first|refine Zz ?_|intro _
  refine o6 (k+1) ⟨rfl,rfl,?_,?_,trivial⟩ slr om om
  ·rw[yE];rfl
  ·show some (int (2+(k:Int)+1))=some (int (2+((k+1:Nat):Int)));rw[show 2+(k:Int)+1=2+((k+1:Nat):Int) by omega]
 ·have hlg:(dJ x k).take (H5 x).b.toNat=U1 x (H5 x).b:=TK hx om;have hll:(U1 x (H5 x).b).length<=1000000:=by
   rw[<- hlg,List.length_take];omega
  have hrc:(l.map str).length=l.length:=llm _;repeat' first|refine Zz ?_|intro _
  refine U7 0 (H5 x).b.toNat ?_ (h2:=by omega) (h4:=by omega);rw[List.drop_zero,hlg];repeat' first|refine Zz ?_|intro _
  rw[hl];rw[hl] at hll;refine a5E [str (J7 l)] (hc:=a1u) (hp:=⟨om,hm⟩) ?_;repeat' first|refine Zz ?_|intro _
  rename_i gl;have e:dX x=⟨H5 x,J7 l,false⟩:=by unfold dX;rw[hl]
  rw[e];refine l9 (eZ ⟨I,gl⟩ x ⟨H5 x,J7 l,false⟩) ⟨gl,rfl,rfl⟩ ?_;exact x9
def DvIn (x:DvX):Prop:=∀ w∈x.ws,0<=w.1/\w.1<x.n
theorem Ih {x:DvX}{a:Int}{s:Bs}(h:DvIn x):DvIn (L9 x a s).1:=by
 unfold L9;split
 ·exact h
 split
 ·exact h
 rename_i _ hh;have ha:0<=a/\a<x.n:=by
  cases hd:fD x a with
  | false=>exact absurd (.inl hd) hh
  | true=>exact of_decide_eq_true hd
 split
 all_goals
  intro w hw;rcases List.mem_append.1 (show w∈x.ws++[(a,s)] from hw) with hw|hw
  ·exact h w hw
  ·rw[List.mem_singleton.1 hw];exact ha
theorem a2w {x:DvX}(h:DvIn x):DvIn (W9 x).1:=by
 unfold W9;split
 ·exact h
 split
 ·exact h
 ·intro w hw;exact absurd (show w∈([]:List (Int × Bs)) from hw) sm
theorem a1t {I:R7I}{x:DvX}{s:SlX}{r:Bs}(hx:DvOk x)(hi:DvIn x)(hw:x.ws.length<=1000)(he:0<=s.m.e/\s.m.e<=1000000)(hb:s.m.b=s.l.length)(hb2:s.m.b<=1000000)(hc:0<=s.m.c/\s.m.c<=1000000)(hbr:s.br=false) :
  Av.Spec prog GL 66 [ptr I.gl,str r] (eZ I x s) fun u m=>u=int (jH x s r).2.2/\∃ v,m=eZ { I with vw:=v } (jH x s r).1 (jH x s r).2.1:=by
 have hn:=hx.n;have hrm:J4 x.n=(x.n-2)*64:=rfl;refine qF func66 ntmps66 fun _ hs=>?_;repeat' first|refine Zz ?_|intro _
 rw[hbr];repeat' first|refine Zz ?_|intro _
 unfold jH;rw[if_neg (by rw[hbr];decide)];by_cases h1:1048576<r.length
 ·rw[if_pos h1,if_pos h1,if_pos h1];repeat' first|refine Zz ?_|intro _
  exact l9 (eZ I x s) ⟨rfl,I.vw,rfl⟩ slr
 rw[if_neg h1,if_neg h1,if_neg h1];repeat' first|refine Zz ?_|intro _
 refine gJ [] (eZ I x s) [] (a1r hn om) (fun u m1 hu=>?_);obtain⟨rfl,rfl⟩:=hu;rw[<- hb];by_cases h2:J4 x.n-s.m.b<(y8 r).length
 ·rw[if_pos h2];repeat' first|refine Zz ?_|intro _
  exact l9 (eZ I x s) ⟨rfl,I.vw,rfl⟩ slr
 rw[if_neg h2];have hal:(s.l++y8 r).length=s.l.length+(y8 r).length:=lla;have hcm:aH x s r=gX x (2+((s.l.length / 64:Nat):Int)) ((s.l++y8 r).drop (64*(s.l.length / 64))):=by
  unfold aH;rw[a2n,hb,show (s.l.length:Int) / 64=((s.l.length / 64:Nat):Int) by omega]
 repeat' first|refine Zz ?_|intro _
 generalize hA:s.l++y8 r=A at *;obtain⟨p0,hp0,hp1⟩:∃ p0:Nat,p0<64/\(A.length+p0)%64=0:=⟨(64-A.length%64)%64,om,om⟩;refine y5 (α:=Nat) (fun p=>[(0,ptr I.gl),(7,str A),(8,str (A++List.replicate p (0:UInt8)))]) (fun _=>eZ I x s) (fun p=>p<=p0) (fun p=>p0-p) 0 ⟨rfl,rfl,by rw[List.replicate_zero,List.append_nil];rfl,trivial⟩ slr (Nat.zero_le _) ?_;intro p hp;have hlen:(A++List.replicate p (0:UInt8)).length=A.length+p:=by rw[lla,List.length_replicate]
 by_cases hz:(A.length+p)%64=0
 rotate_left
 ·have hp':p<p0:=by
   rcases Nat.lt_or_ge p p0 with h|h
   ·exact h
   ·exact absurd (show p=p0 by omega) (fun e=>hz (e ▸ hp1))
  repeat' first|refine Zz ?_|intro _
  refine o6 (p+1) ⟨rfl,rfl,?_,trivial⟩ slr hp' om;rw[List.replicate_succ',<- laa];rfl
 obtain rfl:p=p0:=by omega
 have hbn:s.l.length<=262016:=om
 have hAn:A.length<=262016:=om
 repeat' first|refine Zz ?_|intro _
 refine y5 (α:=Nat × DvX × Value) (fun z=>[(0,ptr I.gl),(7,str A),(8,str (A++List.replicate p (0:UInt8))),(9,int z.1)]) (fun z=>eZ { I with vw:=z.2.2 } z.2.1 s)
  (fun z=>DvOk z.2.1/\DvIn z.2.1/\gX z.2.1 (2+(z.1:Int)) (A.drop (64*z.1))=aH x s r/\z.2.1.ws.length<=1000+z.1/\z.1<=5000/\z.2.1.n=x.n) (fun z=>5000-z.1) (s.l.length / 64,x,I.vw) ⟨rfl,rfl,rfl,rfl,trivial⟩ slr ⟨hx,hi,hcm.symm,by dsimp only;omega,by dsimp only;omega,rfl⟩ ?_
 rintro⟨i,y,v⟩ ⟨hy,hyi,hpt,hyw,hi5,hyn⟩;dsimp only at hy hyi hpt hyw hi5 hyn ⊢;by_cases hlt:64*i<A.length
 ·have hpf:=Vs (all:=A) (i:=i) (p:=p) hlt hz hp0;rw[Vh hlt] at hpt;have hpl:=KE (A.drop (64*i));repeat' first|refine Zz ?_|intro _
  apply x8 [];exact rfl;exact rfl;kernel_rfl
  ·intro _ _;refine U7 (64*i) (64*i+64) ?_;rw[List.drop_take,show 64*i+64-64*i=64 by omega,hpf];exact j4 (o9 rfl rfl)
  repeat' first|refine Zz ?_|intro _
  apply Y8 [1,2,3];exact rfl;exact rfl;kernel_rfl;kernel_rfl;intro _ _;refine X4 (Gi (I:={ I.toR6I with vw:=v }) (x:=y) (a:=2+(i:Int)) (s:=M6 (A.drop (64*i))) hy.lf om hy.n) (fun u m1 hu=>?_);obtain⟨rfl,v',rfl⟩:=hu;refine j4 (R6 (K9 { I.toR6I with vw:=v' } (L9 y (2+(i:Int)) (M6 (A.drop (64*i)))).1) [] rfl rfl lpr rfl ?_);have hy2:DvOk (L9 y (2+(i:Int)) (M6 (A.drop (64*i)))).1:=yD hy;have hy3:DvIn (L9 y (2+(i:Int)) (M6 (A.drop (64*i)))).1:=Ih hyi;have hw2:=FM (x:=y) (a:=2+(i:Int)) (s:=M6 (A.drop (64*i)));have hn2:(L9 y (2+(i:Int)) (M6 (A.drop (64*i)))).1.n=y.n:=a2t;generalize L9 y (2+(i:Int)) (M6 (A.drop (64*i)))=q at *;obtain⟨y',e⟩:=q;dsimp only at hpt hy2 hy3 hw2 hn2 ⊢;by_cases he0:e=0
  ·subst he0;rw[if_pos rfl] at hpt;repeat' first|refine Zz ?_|intro _
   refine o6 (i+1,y',v') ⟨rfl,rfl,rfl,rfl,trivial⟩ slr ⟨hy2,hy3,?_,by dsimp only;omega,by dsimp only;omega,hn2.trans hyn⟩ (by dsimp only;omega);rw[<- hpt,show 2+((i+1:Nat):Int)=2+(i:Int)+1 by omega]
  ·rw[if_neg he0] at hpt;rw[<- hpt,if_pos he0];repeat' first|refine Zz ?_|intro _
   exact l9 (eZ { I with vw:=v' } y' { s with br:=true }) ⟨rfl,v',rfl⟩ slr
 rw[Vg hlt] at hpt;have hc2:bC x s r=W9 y:=by unfold bC;rw[<- hpt]
 rw[<- hpt,if_neg (show ¬ (((y,0):DvX × Int).2≠0) from fun h=>h rfl)];have hAb:(A.length:Int)=s.m.b+((y8 r).length:Int):=by omega
 have hM:MkB (F7 s r):=⟨by unfold F7;dsimp only;omega,by unfold F7;dsimp only;omega,by unfold F7;dsimp only;omega⟩;have hMe:(F7 s r).e=s.m.e+1:=rfl;repeat' first|refine Zz ?_|intro _
 refine gJ [_] (K9 { I.toR6I with vw:=v } y) [] (Gm (I:={ I.toR6I with vw:=v }) hy om hyi) (fun u m1 hu=>?_);obtain⟨rfl,v2,rfl⟩:=hu;have hy2:DvOk (W9 y).1:=LU hy;have hy3:DvIn (W9 y).1:=a2w hyi;have hw2:=Ii (x:=y);have hn2:(W9 y).1.n=y.n:=a2y;have hc3:bB x s r=L9 (W9 y).1 ((F7 s r).e%2) (K4 (F7 s r)):=by unfold bB;rw[hc2]
 rw[hc2];clear hc2 hpt hcm;generalize W9 y=q at *;obtain⟨y2,e2⟩:=q;dsimp only at hy2 hy3 hw2 hn2 hc3 ⊢;by_cases e20:e2=0
 rotate_left
 ·rw[if_pos e20];repeat' first|refine Zz ?_|intro _
  exact l9 (eZ { I with vw:=v2 } y2 { s with br:=true }) ⟨rfl,v2,rfl⟩ slr
 subst e20;rw[if_neg (fun h=>h rfl)];repeat' first|refine Zz ?_|intro _
 obtain⟨M,hM0⟩:∃ M,F7 s r=M:=⟨_,rfl⟩;have hMA:AV.agg 3 [int (s.m.e+1),int (A.length:Int),int (s.m.c+1)]=dE M:=by
  rw[hAb,<- hM0];rfl
 rw[hMA];rw[hM0] at hM hMe hc3;have hpk:=EO M;repeat' first|refine Zz ?_|intro _
 rw[<- hMe];apply Y8 [1,2,3];exact rfl;exact rfl;kernel_rfl;kernel_rfl;intro _ _;refine X4 (Gi (I:={ I.toR6I with vw:=v2 }) (x:=y2) (a:=M.e%2) (s:=K4 M) hy2.lf om hy2.n) (fun u m1 hu=>?_);obtain⟨rfl,v3,rfl⟩:=hu;refine j4 (R6 (K9 { I.toR6I with vw:=v3 } (L9 y2 (M.e%2) (K4 M)).1) [] rfl rfl lpr rfl ?_);have hz2:DvOk (L9 y2 (M.e%2) (K4 M)).1:=yD hy2;have hz3:DvIn (L9 y2 (M.e%2) (K4 M)).1:=Ih hy3;have hzw:=FM (x:=y2) (a:=M.e%2) (s:=K4 M);have hc4:dN x s r=W9 (L9 y2 (M.e%2) (K4 M)).1:=by unfold dN;rw[hc3]
 rw[hc3];clear hc3;generalize L9 y2 (M.e%2) (K4 M)=q at *;obtain⟨y3,e3⟩:=q;dsimp only at hz2 hz3 hzw hc4 ⊢;by_cases e30:e3=0
 rotate_left
 ·rw[if_pos e30];repeat' first|refine Zz ?_|intro _
  refine l9 (eZ { I with vw:=v3 } y3 { s with br:=true }) ⟨rfl,v3,rfl⟩ ?_;exact x9
 subst e30;rw[if_neg (fun h=>h rfl)];repeat' first|refine Zz ?_|intro _
 refine gJ [_] (K9 { I.toR6I with vw:=v3 } y3) [_] (Gm (I:={ I.toR6I with vw:=v3 }) hz2 om hz3) (fun u m1 hu=>?_);obtain⟨rfl,v4,rfl⟩:=hu;rw[hc4];clear hc4;generalize W9 y3=q at *;obtain⟨y4,e4⟩:=q;dsimp only;by_cases e40:e4=0
 rotate_left
 ·rw[if_pos e40];repeat' first|refine Zz ?_|intro _
  refine l9 (eZ { I with vw:=v4 } y4 { s with br:=true }) ⟨rfl,v4,rfl⟩ ?_;exact x9
 subst e40;rw[if_neg (fun h=>h rfl)];repeat' first|refine Zz ?_|intro _
 rw[hM0];refine l9 (eZ { I with vw:=v4 } y4 ⟨M,A,s.br⟩) ⟨rfl,v4,by rw[hbr]⟩ ?_;exact x9
end Go.Proofs.YtjhnaegpchadiaaGreatDoor

namespace Go.Proofs.YtjhnaegpchadiaaGreatDoor
open Go Go.RowKit Tw Av Go.Proofs.Tryz
instance b3t {h t:Int}{l:List Bs}{xs:List AV}{id:Option Value}[hx:Strs xs l]:Ans prog GL 67 [.agg 3 [int h,int t,.sl 1 xs id]] ((h<=9223372036854775807/\t<=9223372036854775807)/\l.length<=8000000) (str (yO h t l)):=⟨fun hp=>by
 obtain⟨⟨h1,h2⟩,h3⟩:=hp;have h':=hx.out;subst h';refine qF func67 ntmps67 fun _ hs=>?_;repeat' first|refine Zz ?_|intro _
 exact d9 rfl⟩
instance b3s {h t:Int}{l:List Bs}{xs:List AV}{id:Option Value}[hx:Strs xs l]:Ans prog GL 130 [.agg 3 [int h,int t,.sl 1 xs id]] (BkG ⟨h,t,l⟩) (int 0):=⟨fun hp=>by
 obtain⟨hh,ht,hl,hs6⟩:=hp;dsimp only at hh ht hl hs6;have h:=hx.out;subst h;have hm:(l.map str).length=l.length:=llm _;refine qF func130 ntmps130 fun _ hs=>?_;repeat' first|refine Zz ?_|intro _
 rename_i g1;refine y5 (α:=Nat) (fun i=>[(1,ptr g1),(3,int i)]) (fun i=>[.var g1 130 (.agg 3 [int h,int t,.sl 1 (l.map str) id])])
  (fun i=>i<=l.length) (fun i=>l.length-i) 0 ⟨rfl,rfl,trivial⟩ slr (Nat.zero_le _) ?_
 intro i hi;by_cases hil:i<l.length
 ·have h6:=hs6 _ (List.getElem_mem hil);repeat' first|refine Zz ?_|intro _
  refine o6 (i+1) ⟨rfl,rfl,trivial⟩ slr hil om
 ·repeat' first|refine Zz ?_|intro _
  exact d9 rfl⟩
instance b3r {b:BlkX}:Ans prog GL 59 [str (K6 b)] (BkG b) (.tup [.agg 3 [int b.h,int b.t,.sl 1 (b.x.map str) none],int 0]):=⟨fun hb=>by
 have hp:BkG ⟨b.h,b.t,b.x⟩:=hb;have hl:=Lh b;obtain⟨e1,e2,e3⟩:=bk_rd hb;obtain⟨f1,f2,f3⟩:=Lg hb;obtain⟨k1,k2,k3⟩:=Lf hb;have l1:(p9 116 b.t++M3 120 b.x).length<=1000000000:=Nat.le_trans LenLe.out dc;have l2:(M3 120 b.x).length<=1000000000:=Nat.le_trans LenLe.out dc;generalize hS:K6 b=S at *;generalize hS1:p9 116 b.t++M3 120 b.x=S1 at *;generalize hS2:M3 120 b.x=S2 at *;refine qF func59 ntmps59 fun _ hs=>?_;repeat' first|refine Zz ?_|intro _
 rw[e1,e2,e3];repeat' first|refine Zz ?_|intro _
 rw[f1,f2,f3];repeat' first|refine Zz ?_|intro _
 rw[k1,k2,k3,show R3 [] false=0 from rfl];repeat' first|refine Zz ?_|intro _
 exact d9 rfl⟩

def iO (c:ChX)(s:Bs):Int:=if c.dd=true then 13 else if 6000<s.length then 11 else if 16<=c.ws.length then 15 else 0
def zI (c:ChX)(s:Bs):ChX:=if iO c s=0 then { c with ws:=c.ws++[s] } else c
theorem a1K {I:ChI}{x:DvX}{s:SlX}{c:ChX}{t:Bs}(hw:c.ws.length<=1000000):Av.Spec prog GL 38 [ptr I.gc,str t] (bD I x s c) fun u m=>u=int (iO c t)/\∃ v,m=bD { I with vt:=v } x s (zI c t):=by
 have hm:(c.ws.map str).length=c.ws.length:=llm _;refine qF func38 ntmps38 fun _ hs=>?_;repeat' first|refine Zz ?_|intro _
 unfold zI;by_cases hd:c.dd=true
 ·have he:iO c t=13:=by unfold iO;rw[if_pos hd]
  rw[he,if_neg dc];rw[hd];repeat' first|refine Zz ?_|intro _
  exact l9 (bD I x s c) ⟨rfl,I.vt,rfl⟩ slr
 have hd0:c.dd=false:=by simpa using hd
 by_cases h1:6000<t.length
 ·have he:iO c t=11:=by unfold iO;rw[if_neg hd,if_pos h1]
  rw[he,if_neg dc];rw[hd0];repeat' first|refine Zz ?_|intro _
  exact l9 (bD I x s c) ⟨rfl,I.vt,rfl⟩ slr
 by_cases h2:16<=c.ws.length
 ·have he:iO c t=15:=by unfold iO;rw[if_neg hd,if_neg h1,if_pos h2]
  rw[he,if_neg dc];rw[hd0];repeat' first|refine Zz ?_|intro _
  exact l9 (bD I x s c) ⟨rfl,I.vt,rfl⟩ slr
 ·have he:iO c t=0:=by unfold iO;rw[if_neg hd,if_neg h1,if_neg h2]
  rw[he,if_pos rfl];rw[hd0];repeat' first|refine Zz ?_|intro _
  refine I1 (fun v'=>?_);repeat' first|refine Zz ?_|intro _
  rw[show c.ws.map str++[str t]=(c.ws++[t]).map str by rw[List.map_append];rfl,hd0];exact l9 _ ⟨rfl,v',rfl⟩ slr
theorem OO {d:List Ent}{b:BlkX}(h:DOk d):DOk (L8 d b).1:=JH h
theorem Gx {I:ChI}{x:DvX}{s:SlX}{c:ChX}{b:BlkX}{id:Option Value}(h1:c.hs.length<c.ms.length/\c.ms.length<=1000000)(h2:c.ev.length<=1000000)(hd:DOk (o7 c))(hl:b.x.length<=16)(hx:∀ s∈b.x,Tx20 s) :
  Av.Spec prog GL 52 [ptr I.gc,.agg 3 [int b.h,int b.t,.sl 1 (b.x.map str) id]] (bD I x s c) fun u m=>u=.sl 3 ((L8 (o7 c) b).2.1.map N8) none/\∃ v1 v2 v3,m=bD { I with vm:=v1,vh:=v2,ve:=v3 } x s (fV c b):=by
 have hr:=WS hd hl hx;have hr2:=OO (b:=b) hd;have hm1:(c.ms.map dA).length=c.ms.length:=llm _;have hm2:(c.hs.map V8).length=c.hs.length:=llm _;have hm3:(c.ev.map U3).length=c.ev.length:=llm _;have hr3:(L8 (o7 c) ⟨b.h,b.t,b.x⟩).1.length<=1000000:=Nat.le_trans hr2.l dc;have hr4:=(zK (h:=b.h) (t:=b.t) (l:=b.x) (q:=(o7 c,[],[]))).2;have hr5:(L8 (o7 c) ⟨b.h,b.t,b.x⟩).2.2.length<=16:=by
  have e:(L8 (o7 c) ⟨b.h,b.t,b.x⟩).2.2.length<=([]:List EvX).length+b.x.length:=hr4;simp only[List.length_nil] at e;omega
 refine qF func52 ntmps52 fun _ hs=>?_;repeat' first|refine Zz ?_|intro _
 apply bP [10];exact rfl;exact rfl;kernel_rfl
 ·intro _ _;refine bG ?_;exact j4 (bW rfl)
 ·exact rfl
 ·exact rfl
 repeat' first|refine Zz ?_|intro _
 apply x8 [10];exact rfl;exact rfl;kernel_rfl
 ·intro _ _;refine aQ ?_;exact j4 (o9 rfl rfl)
 repeat' first|refine Zz ?_|intro _
 apply Y8 [2];exact rfl;exact rfl;kernel_rfl;kernel_rfl;intro _ _;refine I1 (fun v1=>?_);refine j4 (R6 [.tail 56 1 v1] [] rfl rfl lpr rfl ?_);repeat' first|refine Zz ?_|intro _
 apply x8 [10];exact rfl;exact rfl;kernel_rfl
 ·intro _ _;refine aQ ?_;exact j4 (o9 rfl rfl)
 repeat' first|refine Zz ?_|intro _
 apply Y8 [3];exact rfl;exact rfl;kernel_rfl;kernel_rfl;intro _ _;refine I1 (fun v2=>?_);refine j4 (R6 [.tail 36 35 v2] [] rfl rfl lpr rfl ?_);repeat' first|refine Zz ?_|intro _
 refine I1 (fun v3=>?_);repeat' first|refine Zz ?_|intro _
 rw[show c.ms.map dA++[dA (L8 (o7 c) ⟨b.h,b.t,b.x⟩).1]=(c.ms++[(L8 (o7 c) b).1]).map dA by rw[List.map_append];rfl,show c.hs.map V8++[V8 ⟨c.nm,b.h,b.t,uJ (L8 (o7 c) ⟨b.h,b.t,b.x⟩).1⟩]=(c.hs++[xW c b]).map V8 by rw[List.map_append];rfl,show c.ev.map U3++(L8 (o7 c) ⟨b.h,b.t,b.x⟩).2.2.map U3=(c.ev++(L8 (o7 c) b).2.2).map U3 by rw[List.map_append]];refine l9 (bD { I with vm:=v1,vh:=v2,ve:=v3 } x s (fV c b)) ⟨rfl,v1,v2,v3,rfl⟩ ?_;exact x9

structure ChOk (x:DvX)(s:SlX)(c:ChX):Prop where
 dv:DvOk x
 wl:x.ws.length<=1000
 me:0<=s.m.e/\s.m.e<=1000000
 mb:0<=s.m.b/\s.m.b<=1000000
 mc:0<=s.m.c/\s.m.c<=1000000
 br:s.br=false
 hl:c.hs.length<c.ms.length/\c.ms.length<=100000
 ev:c.ev.length<=100000
 st:DOk (o7 c)
 ws:c.ws.length<=16
 tx:∀ s∈c.ws,Tx20 s
 tm:0<=gM c/\gM c<=1099511627776
def eO (c:ChX)(t:Int):BlkX:=⟨c.hs.length+1,max (min t 1099511627776) (gM c),c.ws⟩
def M9 (x:DvX)(s:SlX)(c:ChX)(t:Int):DvX × SlX × Int:=jH x s (K6 (eO c t))
def wR (x:DvX)(s:SlX)(c:ChX)(t:Int):ChX:=if (M9 x s c t).2.2=0 then fV { c with ws:=[] } (eO c t) else { c with dd:=decide ((M9 x s c t).2.2=14) }
def wQ (x:DvX)(s:SlX)(c:ChX)(t:Int):List Rep:=if (M9 x s c t).2.2=0 then (L8 (o7 c) (eO c t)).2.1 else []
theorem a0r {nm ky:Bs}{gs:Nat}{xs ys zs:List AV}{i j k:Option Value}{d:Bool}:ImpC (.agg 8 [str nm,str ky,ptr gs,.sl 1 xs i,.sl 35 ys j,.sl 15 zs k,.lit (.slice none 0 0),j3 d]) (.agg 8 [str nm,str ky,ptr gs,.sl 1 xs i,.sl 35 ys j,.sl 15 zs k,.sl 1 [] (some (.slice none 0 0)),j3 d]):=(inferInstance:ImpT _ _).imp
theorem Ep {e:Int}:Imp (.tup [A7,int e]) (.tup [.sl 3 [] none,int e]):=(inferInstance:ImpR (.tup [.lit (.slice none 0 0),int e]) (.tup [.sl 3 [] none,int e])).imp
theorem a1M {I:ChI}{x:DvX}{s:SlX}{c:ChX}{t:Int}(h:ChOk x s c)(hd:c.dd=false):Av.Spec prog GL 24 [ptr I.gc,int t] (bD I x s c)
  fun u m=>u=.tup [.sl 3 ((wQ x s c t).map N8) none,int (M9 x s c t).2.2]/\∃ v vm vh ve vt,m=bD { I with vw:=v,vm:=vm,vh:=vh,ve:=ve,vt:=vt } (M9 x s c t).1 (M9 x s c t).2.1 (wR x s c t):=by
 have hhl:=h.hl;have htm:=h.tm;have hws:=h.ws;have hm:(c.ws.map str).length=c.ws.length:=llm _;refine qF func24 ntmps24 fun _ hs=>?_;repeat' first|refine Zz ?_|intro _
 rw[hd];repeat' first|refine Zz ?_|intro _
 apply bP [9];exact rfl;exact rfl;kernel_rfl
 ·intro _ _;refine bG ?_;exact j4 (bW rfl)
 ·exact rfl
 ·exact rfl
 repeat' first|refine Zz ?_|intro _
 apply x8 [9];exact rfl;exact rfl;kernel_rfl
 ·intro _ _;refine aQ ?_;exact j4 (o9 rfl rfl)
 repeat' first|refine Zz ?_|intro _
 apply Y8 [5,6,7,8];exact rfl;exact rfl;kernel_rfl;kernel_rfl;intro _ _;refine X4 (a1c (I:=I.toSlI) (x:=x) (s:=s) (r:=K6 (eO c t)) h.dv h.wl h.me h.mb h.mc h.br) (fun u m1 hu=>?_);obtain⟨rfl,v,rfl⟩:=hu;have hQ:jH x s (K6 (eO c t))=M9 x s c t:=rfl;rw[hQ];refine j4 (R6 (O8 { I.toSlI with vw:=v } (M9 x s c t).1 (M9 x s c t).2.1) [] rfl rfl lpr rfl ?_);unfold wR wQ;by_cases he:(M9 x s c t).2.2=0
 rotate_left
 ·rw[if_neg he,if_neg he];repeat' first|refine Zz ?_|intro _
  refine Y6 (.tup [.sl 3 (([]:List Rep).map N8) none,int (M9 x s c t).2.2]) (bD { I with vw:=v } (M9 x s c t).1 (M9 x s c t).2.1 { c with dd:=decide ((M9 x s c t).2.2=14) }) ?_ ⟨rfl,v,I.vm,I.vh,I.ve,I.vt,rfl⟩ ?_
  ·exact Ep
  ·exact x9
 ·rw[if_pos he,if_pos he];repeat' first|refine Zz ?_|intro _
  refine Nn (g:=I.gc) a0r ?_;refine gG (fun ok w h=>h.full 9 1 none 0) ?_;refine VD (bD { I with vw:=v,vt:=.slice none 0 0 } (M9 x s c t).1 (M9 x s c t).2.1 { c with ws:=[] }) (_::([_,_,_,_]++O8 { I.toSlI with vw:=v } (M9 x s c t).1 (M9 x s c t).2.1)) ?_ (List.perm_middle (l₁:=[_,_,_,_])) ?_;rotate_left
  ·exact x9
  refine X4 (Gx (c:={ c with ws:=[] }) (b:=eO c t) (id:=some I.vt) ⟨hhl.1,by dsimp only;omega⟩ (by have:=h.ev;dsimp only;omega) h.st h.ws h.tx) (fun u m1 hu=>?_);obtain⟨rfl,v1,v2,v3,rfl⟩:=hu;repeat' first|refine Zz ?_|intro _
  rw[he];exact l9 _ ⟨rfl,v,v1,v2,v3,.slice none 0 0,rfl⟩ slr
end Go.Proofs.YtjhnaegpchadiaaGreatDoor

namespace Av
open Go Go.RowKit Tw
section
variable {P:Program} {N:Nat} {ops:Array Oper} {Q:Exit->Act->World->Prop} {rest:List Oper} {s:Base} {e:Env} {m:List Piece} {d:Nat} {ty:TypeId} {pos:String} {af:Array Edge}
theorem Nj {T E:TypeId}{k b:Nat}[t:TyE P T E k b]{n:Nat}{parts:List (Nat × Operand)}{vals:List AV}(h:∀ A,AL P N ops Q s rest ((d,.sl k vals (some (.slice A n n)))::e) (.tail E k (.slice A n n)::m))(hx:N9 e (parts.map (·.2))=some vals:=by exact rfl)
  (hi:parts.map (·.1)=List.range n:=by exact rfl) (hk:vals.all (fun v=>Nat.beq v.size k)=true:=by exact rfl) (hn:vals.all R5=true:=by exact rfl) (hs:Nat.ble (n*k) 65536=true:=by exact rfl) (hn0:Nat.blt 0 n=true:=by exact rfl) (hd:Nat.blt d N=true:=by exact rfl) :
  AL P N ops Q s (⟨some d,.buildSlice T n parts.toArray,ty,pos,af,none⟩::rest) e m:=by
 have hkv:∀ v∈vals,v.size=k:=fun z hz=>Nat.eq_of_beq_eq_true (List.all_eq_true.1 hk z hz);have hkp:0<k:=nlb t.k0;have hnp:0<n:=nlb hn0;have hnk:n*k<=65536:=nlb hs;refine iD (fun ok w A hS hA=>?_) hd;obtain⟨vs,hvs,hmap⟩:=FF hA hx hn;have hpv:=PR.of_vs hvs;have hlv:=hpv.length;have hsv:=hpv.sizes hkv;have hlen:vs.length=n:=by
  have h1:((parts.map (·.2)).map A.eval).length=vs.length:=by rw[hlv,(hA.evals hx hn).length.symm]
  have h2:(parts.map (·.1)).length=n:=by rw[hi];simp
  simp at h1 h2;omega
 obtain⟨i,z,q1,q2,hzk,_,_⟩:=t.zero;have hzr:(zeroValue E).run P w=.ok z w:=by simp[zeroValue,typeInfo,q1,q2]
 subst hlen;have hcells:((Array.range (vs.length*k)).map (z.cells[· % z.cells.size]!))=(fl (List.replicate vs.length (.agg z.cells))).toArray:=by
  apply Array.ext';rw[LH z.cells (v:=.agg z.cells) rfl,hzk];simp
 have hset:=IY (z:=.agg z.cells) vs [] (fun v hv=>by rw[hsv v hv];exact hzk);simp only[List.nil_append,List.length_nil] at hset;have hfill:=(BA (place:=fun i=>some (i*k,k)) (by
  intro i u hiu;obtain⟨hil,hie⟩:=List.getElem?_eq_some_iff.1 hiu;rw[List.getElem_replicate] at hie;subst hie;have hil':i<vs.length:=by simpa using hil
  rw[yB (k:=k) (fun x hx=>by
   have:=List.mem_of_mem_take hx;rw[List.mem_replicate] at this;rw[this.2];exact hzk)]
  simp[Nat.min_eq_left (Nat.le_of_lt hil')];exact hzk.symm) hset).1
 have hE:=Ext.alloc w (.cells (fl vs).toArray E);have hblk:(w.alloc (.cells (fl vs).toArray E)).heap[w.heap.size]?=some (.cells (fl vs).toArray E (0,0)):=heap_alloc_new w _;have hst:=Ext.astp hE ok;refine⟨.sl k vals (some (.slice (some ⟨w.heap.size,0,none⟩) vs.length vs.length)),.slice (some ⟨w.heap.size,0,none⟩) vs.length vs.length,w.alloc (.cells (fl vs).toArray E),ok,_,?_,?_,(hS.ext hE).full E k (some ⟨w.heap.size,0,none⟩) vs.length,hst,h _⟩
 ·have h0:¬ vs.length*k > 2 ^ 24:=om
  have h1:¬ vs.length*k=0:=by
   have:=Nat.mul_pos hnp hkp;omega
  have hmap':(Array.map (fun (x:Nat × Operand)=>(x.fst,A.eval x.snd)) parts.toArray).toList=(List.range' 0 vs.length).zip vs:=by rw[hmap,hi,List.range_eq_range']
  simp only[execOp,Instr.buildSlice,Sem.run_bind,run_underlying t.l.out,Result.andThen_ok,run_sizeOf t.l.size,h0,h1,if_false,Sem.run_pure,hzr];rw[hmap',hcells,hfill];simp[newRow,newObj,Sem.run]
 ·refine RV.sl hlv (fun v hv=>by injection hv with hv;rw[<- hv]) (Nat.le_refl _) (by
   have:vs.length<=vs.length*k:=Nat.le_mul_of_pos_right _ hkp;simp only[maxLen];omega) (fun _=>⟨w.heap.size,0,fl vs,rfl,by rw[yB hsv],fun j v hj=>?_,(hpv.cells).stp hst⟩) hkv
  rw[Nat.zero_add,cell_of_row _ _ _ _ _ _ hblk];exact⟨by simpa using hj,hS.fresh _ _ (Nat.le_refl _)⟩
end
end Av

namespace Go.Proofs.YtjhnaegpchadiaaGreatDoor
open Go Go.RowKit Tw Av Go.Proofs.Tryz
def O5 (l:List BlkX):Int:=((l.getLast?).map (·.t)).getD 0
structure BsG (bs:List BlkX):Prop where
 l:bs.length<=1000
 g:∀ b∈bs,BkG b/\∀ s∈b.x,Tx20 s
 h:∀ i (h:i<bs.length),bs[i].h=i+1/\O5 (bs.take i)<=bs[i].t
def FD (nm ky:Bs)(d:List Ent):ChX:=⟨nm,ky,[d],[],[],[],[],false⟩
def opC (nm ky:Bs)(d:List Ent)(bs:List BlkX):ChX:=bs.foldl fV (FD nm ky d)
structure OpI (nm ky:Bs)(bs:List BlkX)(c:ChX):Prop where
 nm:c.nm=nm
 ky:c.ky=ky
 hs:c.hs.length=bs.length
 ms:c.ms.length=bs.length+1
 bl:c.bl=bs
 ev:c.ev.length<=16*bs.length
 st:DOk (o7 c)
 tm:gM c=O5 bs
 ws:c.ws=[]
 dd:c.dd=false
theorem DC (l:List BlkX)(b:BlkX):O5 (l++[b])=b.t:=by
 unfold O5;rw[List.getLast?_append];rfl
theorem Ws {nm ky:Bs}{bs:List BlkX}{c:ChX}{b:BlkX}(h:OpI nm ky bs c)(hl:b.x.length<=16):OpI nm ky (bs++[b]) (fV c b):=by
 have hs:=h.hs;have hm:=h.ms;have hr:o7 (fV c b)=(L8 (o7 c) b).1:=by
  unfold o7 fV;dsimp only;rw[lla,List.length_singleton,List.getD_eq_getElem?_getD,List.getElem?_append_right om,show c.hs.length+1-c.ms.length=0 by omega];rfl
 have hev:=(zK (h:=b.h) (t:=b.t) (l:=b.x) (q:=(o7 c,[],[]))).2;refine⟨h.nm,h.ky,?_,?_,?_,?_,?_,?_,h.ws,h.dd⟩
 ·unfold fV;dsimp only;rw[lla,lla,hs];rfl
 ·unfold fV;dsimp only;rw[lla,lla,hm];rfl
 ·unfold fV;dsimp only;rw[h.bl]
 ·unfold fV;dsimp only;have:=h.ev;have e:(L8 (o7 c) b).2.2.length<=([]:List EvX).length+b.x.length:=hev;simp only[List.length_append,List.length_nil,List.length_singleton] at e ⊢;omega
 ·rw[hr];exact OO h.st
 ·rw[DC];unfold gM fV;dsimp only;rw[List.getLast?_append];rfl
theorem Wq {nm ky:Bs}{d:List Ent}(hd:DOk d):OpI nm ky [] (FD nm ky d):=⟨rfl,rfl,rfl,rfl,rfl,Nat.le_refl _,hd,rfl,rfl,rfl⟩
theorem xN {nm ky:Bs}{d:List Ent}{bs:List BlkX}{b:BlkX}:opC nm ky d (bs++[b])=fV (opC nm ky d bs) b:=by
 unfold opC;rw[List.foldl_append];rfl
theorem QK {nm ky:Bs}{d:List Ent}{bs:List BlkX}{i:Nat}(h:i<bs.length):opC nm ky d (bs.take (i+1))=fV (opC nm ky d (bs.take i)) bs[i]:=by
 rw[<- List.take_append_getElem h,xN]
theorem EQ {nm ky:Bs}{d:List Ent}(hd:DOk d){bs:List BlkX}(hb:BsG bs):∀ i,i<=bs.length->OpI nm ky (bs.take i) (opC nm ky d (bs.take i))
 | 0,_=>Wq hd
 | i+1,h=>by
  rw[QK h,<- List.take_append_getElem h];exact Ws (EQ hd hb i om) (hb.g _ (List.getElem_mem _)).1.l
theorem a0s {nm ky:Bs}{gs:Nat}{xs:List AV}{i:Option Value}:ImpC (.agg 8 [str nm,str ky,ptr gs,.sl 1 xs i,A7,A7,A7,j3 false]) (.agg 8 [str nm,str ky,ptr gs,.sl 1 xs i,.sl 35 [] (some (.slice none 0 0)),.sl 15 [] (some (.slice none 0 0)),.sl 1 [] (some (.slice none 0 0)),j3 false]):=(inferInstance:ImpT _ _).imp
theorem a1L {I:DvI}{x:DvX}{nm ky:Bs}{gen:List Ent}{bs:List BlkX}{xs:List AV}{id:Option Value}(hxs:xs=gen.map D5)(h:1<=nm.length/\nm.length<=32/\ky.length<=64)(hx:DvOk x)(hw:x.ws.length<=1000)(h0:kW x=0)(hr:EP x=bs.map K6)(hb:BsG bs)(hg:gen.length<=1000)(hd:DOk (aY gen)) :
  Av.Spec prog GL 18 [ptr I.gd,str nm,str ky,.sl 2 xs id] (F5 I x) fun u m=>∃ J:ChI,J.gd=I.gd/\J.gm=I.gm/\u=.tup [ptr J.gc,int 0]/\m=bD J x (dX x) (opC nm ky (aY gen) bs):=by
 subst hxs;have hne:nm≠[]:=by rintro rfl;simp at h
 have hbl:=hb.l;have hmb:((bs.map K6).map str).length=bs.length:=by rw[llm,llm]
 refine qF func18 ntmps18 fun _ hs=>?_;repeat' first|refine Zz ?_|intro _
 refine X4 (a1a hx om h0) (fun u m1 hu=>?_);obtain⟨gs,rfl,rfl⟩:=hu;rw[hr];repeat' (first|refine bK ?_|refine O3 ?_|refine M7 ?_|intro _|simp only[List.set]|refine xY ?_|refine xZ ?_|refine sD ?_|refine vE ?_|fail)
 refine Nj (fun A=>?_);repeat' first|refine Zz ?_|intro _
 rename_i gc;rw[hmb];refine gK (g:=gc) a0s ?_;refine Q6 (fun ok w h=>h.full 9 1 none 0) ?_;refine Q6 (fun ok w h=>h.full 172 15 none 0) ?_;refine Q6 (fun ok w h=>h.full 36 35 none 0) ?_;refine yX (bD ⟨⟨I,gs⟩,gc,.slice A 1 1,.slice none 0 0,.slice none 0 0,.slice none 0 0⟩ x (dX x) (FD nm ky (aY gen))) ([_,_,_]++([_,_]++O8 ⟨I,gs⟩ x (dX x))) ?_ (List.perm_append_comm_assoc [_,_] [_,_,_] _) slr;refine y5 (α:=Nat × Value × Value × Value) (fun z=>[(13,ptr gc),(14,j3 true),(48,.sl 1 ((bs.map K6).map str) none),(49,int bs.length),(50,int z.1)]) (fun z=>bD ⟨⟨I,gs⟩,gc,z.2.1,z.2.2.1,z.2.2.2,.slice none 0 0⟩ x (dX x) (opC nm ky (aY gen) (bs.take z.1)))
  (fun z=>z.1<=bs.length) (fun z=>bs.length-z.1) (0,.slice A 1 1,.slice none 0 0,.slice none 0 0) ⟨rfl,rfl,rfl,rfl,rfl,trivial⟩ slr (Nat.zero_le _) ?_
 rintro⟨i,vm,vh,ve⟩ hi;dsimp only at hi ⊢;have hI:=EQ (nm:=nm) (ky:=ky) hd hb i hi;by_cases hil:i<bs.length
 ·obtain⟨hbg,hbx⟩:=hb.g _ (List.getElem_mem hil);have hbh:=hb.h i hil;have hst:=QK (nm:=nm) (ky:=ky) (d:=aY gen) hil;have hsl:=hI.hs;have hml:=hI.ms;have hev:=hI.ev;have htm:=hI.tm;rw[List.length_take,Nat.min_eq_left om] at hsl hml hev;have hgi:(bs.map K6)[i]'(by rw[llm];exact hil)=K6 bs[i]:=List.getElem_map ..;have hll:i<(bs.map K6).length:=by rw[llm];exact hil
  generalize opC nm ky (aY gen) (bs.take i)=c at *;repeat' first|refine Zz ?_|intro _
  rw[hgi];repeat' first|refine Zz ?_|intro _
  rw[dT (show bs[i].h=(c.hs.length:Int)+1 by omega)];repeat' first|refine Zz ?_|intro _
  rw[dT (show gM c<=bs[i].t by omega)];repeat' first|refine Zz ?_|intro _
  rename_i g17;refine gJ [_] (bD ⟨⟨I,gs⟩,gc,vm,vh,ve,.slice none 0 0⟩ x (dX x) c) [] (Gx (b:=bs[i]) (id:=none) ⟨om,om⟩ om hI.st hbg.l hbx) (fun u m1 hu=>?_);obtain⟨rfl,v1,v2,v3,rfl⟩:=hu;rw[<- hst];repeat' first|refine Zz ?_|intro _
  exact o6 (i+1,v1,v2,v3) ⟨rfl,rfl,rfl,rfl,rfl,trivial⟩ (List.sublist_cons_self _ _) hil (by dsimp only;omega)
 ·obtain rfl:i=bs.length:=by omega
  rw[List.take_length];repeat' first|refine Zz ?_|intro _
  refine l9 _ ⟨⟨⟨I,gs⟩,gc,vm,vh,ve,.slice none 0 0⟩,rfl,rfl,rfl,rfl⟩ slr
end Go.Proofs.YtjhnaegpchadiaaGreatDoor

namespace Go.Proofs.YtjhnaegpchadiaaGreatDoor
open Go Go.RowKit Tw Av

def K19 (k:Int):Prop:=k=1\/k=2\/k=3\/k=4\/k=13\/k=14
attribute [local irreducible] E8 eQ AR zW qI mP zG zO
end Go.Proofs.YtjhnaegpchadiaaGreatDoor

namespace Go.Proofs.YtjhnaegpchadiaaGreatDoor
open Go Go.RowKit Tw Av Go.Proofs.Tryz
attribute [local irreducible] M8 P7
theorem QH {s:Bs}(h:I5 s=true):s.length<=32:=by
 unfold I5 at h;rw[bet,decide_eq_true_iff] at h;exact h.2.2
theorem Tm (s:Bs):(kU s).o.length<=32/\(kU s).q.length<=32/\(kU s).p.length<=32/\(kU s).s<=4:=by
 unfold kU;split
 ·rename_i h;unfold xJ at h;rw[bet] at h;have h:=h.2;unfold gD at h;simp only[Bool.and_eq_true,decide_eq_true_eq] at h;obtain⟨h1,h2,h3,h4⟩:=h;refine⟨QH h2,QH h3,?_,h1.2⟩;split at h4
  ·rw[of_decide_eq_true h4];simp
  ·exact QH h4
 ·decide
theorem Ia (d:List Ent)(k i:Bs):(H9 d k i).o.length<=32/\(H9 d k i).q.length<=32/\(H9 d k i).p.length<=32/\(H9 d k i).s<=4:=Tm _
instance b3w {d:List Ent}{o:Bs}{xs:List AV}{id:Option Value}[hx:Ents xs d]:Ans prog GL 405 [.sl 2 xs id,str [72],str o] (DOk d) (.tup [str (H9 d [75] o).o,j3 (P7 d [75] o)]):=⟨fun hd=>by
 refine qF func405 ntmps405 fun _ hs=>?_;repeat' first|refine Zz ?_|intro _
 exact d9 rfl⟩
end Go.Proofs.YtjhnaegpchadiaaGreatDoor
