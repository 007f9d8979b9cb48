/- . -/
import Derived.Test.YtgcmdlboancepaaGreatDoorQ45
set_option maxHeartbeats 64000000
namespace Go.Proofs.Z
open Go Go.RowKit Tw Av Go.Proofs.Tryz
section
instance b6I {l:List TxX}{i j:Option Value}:Ans prog GL 32 [.sl 100 (l.map x9) i,.sl 100 (l.map x9) j] (l.length<=1000000000/\∀ x∈l,TxP x) (d9 true):=⟨λhp=>by
 obtain⟨hl,hp⟩:=hp;have hm:(l.map x9).length=l.length:=llm _;refine ze func32 ntmps32 λ_ hs=>?_;repeat' first|refine Z ?_|intro
 refine y9 (α:=Nat) (λq=>[(0,.sl 100 (l.map x9) i),(1,.sl 100 (l.map x9) j),(5,int q)]) (λ_=>[]) (λq=>q<=l.length) (λq=>l.length-q) 0 zc slr (Nat.zero_le _) ?_;intro q hq;by_cases hql:q<l.length
 ·have hx:=hp _ (List.getElem_mem hql);repeat' first|refine Z ?_|intro
  exact o9 (q+1) zc slr hql om
 exact j4⟩
def kR (kd n known:Int):TxX:={ Y5 with k:=13,x:=⟨0,[99],[],if kd%8=2 then [99,47,120] else [120],Q5 (n%8).toNat,if kd%8=2 then [98,111,98] else [97,110,110],if kd%8=2 then [97,110,110] else [98,111,98],known+2+n / 8%4,0⟩ }
attribute [local irreducible] Q5
theorem Dy {d f g:Bs}{a h:Int}(h0:0<=a)(h1:a<8):ImpC (.agg 100 [int 13,str [],str [],str [],str [],str [],int 0,.agg 35 [str [],int 0,int 0,hA E9],hA E9,.agg 12 [int 0,str [99],str [],.agg 7 [str d,.agg 4 [.lit (.int .u64 a),.lit (.int .u64 0),.lit (.int .u64 0),.lit (.int .u64 0)],str f,str g],int h,int 0],str [],int 0,.agg 3 [int 0,int 0,J2],.agg 9 [int 0,J2,J2,.agg 3 [int 0,int 0,J2],.agg 3 [int 0,int 0,J2]]]) (x9 { Y5 with k:=13,x:=⟨0,[99],[],d,Q5 a.toNat,f,g,h,0⟩ }):=by
 have e:=Yd h0 h1;show ImpC _ (.agg 100 [int 13,str [],str [],str [],str [],str [],int 0,.agg 35 [str [],int 0,int 0,hA E9],hA E9,.agg 12 [int 0,str [99],str [],.agg 7 [str d,z8 (Q5 a.toNat),str f,str g],int h,int 0],str [],int 0,.agg 3 [int 0,int 0,.sl 32 [] none],.agg 9 [int 0,.sl 2 [] none,.sl 2 [] none,.agg 3 [int 0,int 0,.sl 32 [] none],.agg 3 [int 0,int 0,.sl 32 [] none]]]);rw[e];exact(inferInstance:ImpT _ _).imp
instance b6z {sd kd n known:Int}:Ans prog GL 35 [.agg 3 [int sd,int kd,int n],int known] (0<=known/\known<=1099511627776) (x9 (kR kd n known)):=⟨λhp=>by
 obtain⟨h0,h1⟩:=hp;have ha0:0<=n%8:=by omega
 have ha1:n%8<8:=om
 refine ze func35 ntmps35 λ_ hs=>?_;repeat' first|refine Z ?_|intro
 refine RO ?_;repeat' first|refine Z ?_|intro
 refine RO ?_;repeat' first|refine Z ?_|intro
 by_cases hk:kd%8=2
 ·rw[dT hk];repeat' first|refine Z ?_|intro
  refine RO ?_;repeat' first|refine Z ?_|intro
  rename_i gs gt gc;refine xA (g:=gt) (v':=x9 (kR kd n known)) ?_ ?_
  ·unfold kR;rw[if_pos hk,if_pos hk,if_pos hk];exact Dy ha0 ha1
  exact j6 rfl
 rw[dZ hk];repeat' first|refine Z ?_|intro
 rename_i gs gt gc;refine xA (g:=gt) (v':=x9 (kR kd n known)) ?_ ?_
 ·unfold kR;rw[if_neg hk,if_neg hk,if_neg hk];exact Dy ha0 ha1
 exact j6 rfl⟩
end

section
variable {P:Program} {N:Nat} {Q:Exit->Act->World->Prop} {s:Av.Base} {e:Av.Env} {T:List Av.Piece} {gl:List (Nat × AV)} {l os:List Oper} {i:Nat} {rs:List Rec}
theorem oQ (T':List Av.Piece)(h:Obl P N Q s gl l os i T' e rs)(hT:T'=T):Obl P N Q s gl l os i T e rs:=hT ▸ h
end
structure SdI where
 gd:Nat
 gm:Nat
 gs:Nat
 gc:Nat
 gd2:Nat
 gs2:Nat
 cc2:Nat
 gl:Nat
 gr:Nat
 v:V5
 w:V5
abbrev T9 (q:SdI)(x:DvX)(s:SlX)(c:ChX):List Av.Piece:=NV q.gd2 q.gs2 q.cc2 q.gl q.gr q.w x s c++ZI q.gd q.gm q.gs q.gc q.v x s c
abbrev Q9 (c0 c1 r0 r1:Option Addr):AV:=.agg 4 [.agg 2 [.lit (.pointer c0),.lit (.pointer c1)],.agg 2 [.lit (.pointer r0),.lit (.pointer r1)]]
abbrev E8 (g:Nat):Option Addr:=some ⟨g,0,none⟩
abbrev vH (a b:SdI):AV:=Q9 (E8 a.gc) (E8 b.gc) (E8 a.gr) (E8 b.gr)
section
variable {nm ky:Bs} {d:List Ent} {bs:List BlkX} {ws:List Bs} {x:DvX} {c0 c1 r0 r1:Option Addr} {i t:Int}
theorem a7y {t:Int}{y:DvX}{s:SlX}{c:ChX}{e:Int}{r:List Rep}(hx:Ro x bs)(hc:CuS nm ky d x bs ws t y s c e r)(ha:x.ar=false):∃ bs' ws',(y.n=x.n/\y.ar=false/\Ro y bs'/\(bs'=bs++[O5 bs ws t]/\ws'=[]\/(bs'=bs/\ws'=ws/\M3 x.n-(aV bs).length<(D9 (M5 (O5 bs ws t))).length)))/\s=F3 bs'/\c=y8 nm ky d bs' ws' false:=by
 cases hc with
 | full h=>exact⟨_,_,⟨rfl,ha,hx,.inr ⟨rfl,rfl,h⟩⟩,rfl,rfl⟩
 | lost y hy hb=>rw[hb] at ha;cases ha
 | yes y hy hb hR=>exact⟨_,_,⟨hy,by rw[hb];exact ha,hR,.inl ⟨rfl,rfl⟩⟩,rfl,rfl⟩
theorem YA (q:SdI)(hq:i=0/\c0=E8 q.gc/\r0=E8 q.gr\/i=1/\c1=E8 q.gc/\r1=E8 q.gr)(hd:DOk d)(h:Ro x bs)(hl:bs.length<188)(hw:WsG ws)(ha:x.ar=false) :
  Av.Spec prog GL 13 [Q9 c0 c1 r0 r1,int i,int t] (T9 q x (F3 bs) (y8 nm ky d bs ws false)) λu m=>∃ v w y bs' ws',(y.n=x.n/\y.ar=false/\Ro y bs'/\(bs'=bs++[O5 bs ws t]/\ws'=[]\/(bs'=bs/\ws'=ws/\M3 x.n-(aV bs).length<(D9 (M5 (O5 bs ws t))).length)))/\u=d9 true/\m=T9 { q with v:=v,w:=w } y (F3 bs') (y8 nm ky d bs' ws' false):=by
 obtain⟨gd,gm,gs,gc,gd2,gs2,cc2,gl,gr,⟨v1,v2,v3,v4,v5⟩,⟨w1,w2,w3,w4,w5⟩⟩:=q;dsimp only at hq;have hc:=a7x (nm:=nm) (ky:=ky) hd h om hw t;obtain⟨bs',ws',hbw,k2,k3⟩:=a7y h hc ha;have hRx:=hbw.2.2.1;have o:=vJ (nm:=nm) (ky:=ky) hd hRx.bg;have hr2:=ZT (nm:=nm) (ky:=ky) (ws:=ws') (dd:=false) hd hRx.bg;have e1:=a7R (nm:=nm) (ky:=ky) (ws:=ws') (dd:=false) hd hRx.bg;have e0:(y8 nm ky d bs' ws' false).ms.length=bs'.length+1:=o.ms;have hst:DOk (j5 (y8 nm ky d bs' ws' false)):=o.st;have hll:bs'.length<=bs.length+1:=by
  rcases hbw.2.2.2 with⟨h1,_⟩|⟨h1,_⟩
  ·rw[h1,lla];exact Nat.le_refl _
  rw[h1];exact Nat.le_succ _
 clear hc o;rcases hq with⟨rfl,rfl,rfl⟩|⟨rfl,rfl,rfl⟩
 all_goals
  refine ze func13 ntmps13 λ_ hs=>?_;repeat' first|refine Z ?_|intro
  refine Bf (_::NV gd2 gs2 cc2 gl _ (w1,w2,w3,w4,w5) x (F3 bs) (y8 nm ky d bs ws false)) _ (a6a (I:=⟨⟨⟨gd,gm,v1⟩,gs⟩,_,v2,v3,v4,v5⟩) (t:=t) hd h om hw) (λu m1 hu=>?_);obtain⟨rfl,a1,a2,a3,a4,a5,rfl⟩:=hu;repeat' first|refine Z ?_|intro
  refine iN [_] _ _ (a5L (I:=⟨⟨⟨gd2,gs2,cc2,w1⟩,gl⟩,_,w2,w3,w4,w5⟩) (t:=t) hd h om hw) (λu m1 hu=>?_);obtain⟨rfl,b1,b2,b3,b4,b5,rfl⟩:=hu;rw[k2,k3];clear k2 k3;generalize (Q3 x (F3 bs) (y8 nm ky d bs ws false) t).1=y at *;generalize hcc:y8 nm ky d bs' ws' false=c at *;have q1:c.hs.length<c.ms.length/\c.ms.length<=1000000:=by omega
  have q2:c.ms.length=c.hs.length+1/\c.ms.length<=1000000:=om
  have q3:=hst.l;repeat' first|refine Z ?_|intro
  rename_i gP;refine oQ (.var gP 29 _::(eX { gd:=gd2,gs:=gs2,c:=cc2,vw:=b1,gl:=gl,gc:=_,vm:=b2,vb:=b3,ve:=b4,vt:=b5 } y (F3 bs') c++gK { gd:=gd,gm:=gm,vw:=a1,gs:=gs,gc:=_,vm:=a2,vh:=a3,ve:=a4,vt:=a5 } y (F3 bs') c)) ?_ rfl;apply zf [10];exact zi
  ·intro _ _;refine aY ?_;exact j3 (p9 rfl rfl)
  repeat' first|refine Z ?_|intro
  refine l9 _ ⟨(a1,a2,a3,a4,a5),(b1,b2,b3,b4,b5),y,bs',ws',hbw,rfl,by rw[hcc]⟩ (List.sublist_cons_self _ _)
theorem QH (q:SdI)(hq:i=0/\c0=E8 q.gc/\r0=E8 q.gr\/i=1/\c1=E8 q.gc/\r1=E8 q.gr)(hd:DOk d)(h:Ro x bs)(hl:bs.length<188)(hw:WsG ws)(ha:x.ar=false)(hr:((aV bs).length:Int)+1004*ws.length+44<=M3 x.n)(hwl:∀ s∈ws,s.length<=1000) :
  Av.Spec prog GL 13 [Q9 c0 c1 r0 r1,int i,int t] (T9 q x (F3 bs) (y8 nm ky d bs ws false)) λu m=>∃ v w y,(y.n=x.n/\y.ar=false/\Ro y (bs++[O5 bs ws t]))/\u=d9 true/\m=T9 { q with v:=v,w:=w } y (F3 (bs++[O5 bs ws t])) (y8 nm ky d (bs++[O5 bs ws t]) [] false):=by
 refine(YA (t:=t) q hq hd h hl hw ha).mono ?_;rintro u m ⟨v,w,y,bs',ws',⟨h1,h2,h3,h4⟩,rfl,rfl⟩;have hn:=a3M (bs:=bs) (t:=t) hwl;rw[KI,lla] at hn;rcases h4 with⟨rfl,rfl⟩|⟨_,_,h4⟩
 ·exact⟨v,w,y,⟨h1,h2,h3⟩,rfl,rfl⟩
 omega
def V4 (ws:List Bs)(s:Bs):List Bs:=if 6000<s.length then ws else if 16<=ws.length then ws else ws++[s]
theorem Eu {s:Bs}:EP (y8 nm ky d bs ws false) s=y8 nm ky d bs (V4 ws s) false:=by
 have e:(y8 nm ky d bs ws false).ws=ws:=rfl;unfold EP oI V4;rw[if_neg (show ¬ (y8 nm ky d bs ws false).dd=true from by show ¬ (false=true);decide),e];split
 ·rw[if_neg dc]
 split
 ·rw[if_neg dc]
 rw[if_pos rfl];rfl
theorem JI {s:Bs}(hw:WsG ws)(hs:s.length<=6000->Tx20 s):WsG (V4 ws s):=by
 unfold V4;split
 ·exact hw
 split
 ·exact hw
 refine⟨?_,λz hz=>?_⟩
 ·rw[lla,List.length_singleton];omega
 rcases List.mem_append.1 hz with hz|hz
 ·exact hw.t z hz
 rw[List.mem_singleton.1 hz];exact hs om
attribute [local irreducible] F8 oI
theorem XZ (q:SdI)(hq:i=0/\c0=E8 q.gc/\r0=E8 q.gr\/i=1/\c1=E8 q.gc/\r1=E8 q.gr){z:TxX}{s:SlX}(hz:TxW z)(hw:ws.length<=1000000) :
  Av.Spec prog GL 28 [Q9 c0 c1 r0 r1,int i,x9 z] (T9 q x s (y8 nm ky d bs ws false)) λu m=>∃ v w,u=d9 true/\m=T9 { q with v:=v,w:=w } x s (y8 nm ky d bs (V4 ws (F8 z)) false):=by
 obtain⟨gd,gm,gs,gc,gd2,gs2,cc2,gl,gr,⟨v1,v2,v3,v4,v5⟩,⟨w1,w2,w3,w4,w5⟩⟩:=q;dsimp only at hq;rcases hq with⟨rfl,rfl,rfl⟩|⟨rfl,rfl,rfl⟩
 all_goals
  refine ze func28 ntmps28 λ_ hs=>?_;repeat' (first|refine eP ?_|refine K3 ?_|refine M9 ?_|refine J8 ?_|intro _)
  refine wE [0,1,2,3,4,6,7,8,9,10,5,11,12,13] kr rfl hs kr ?_;repeat' first|refine Z ?_|intro
  rename_i gP gx;apply U2 [11,12,13,14,15,16,17,18,19];exact rfl;exact rfl;exact rfl;kernel_rfl;intro _ _;refine R7 (a6k (I:=⟨⟨⟨gd,gm,v1⟩,gs⟩,_,v2,v3,v4,v5⟩) (x:=x) (s:=s) (c:=y8 nm ky d bs ws false) (t:=F8 z) hw) (λu m1 hu=>?_);obtain⟨rfl,a5,rfl⟩:=hu;rw[Eu];refine j3 (N7 (gK ⟨⟨⟨gd,gm,v1⟩,gs⟩,_,v2,v3,v4,a5⟩ x s (y8 nm ky d bs (V4 ws (F8 z)) false)) [] rfl rfl lpr rfl ?_);refine oQ (.var gx 57 (x9 z)::.var gP 29 _::(NV gd2 gs2 cc2 gl _ (w1,w2,w3,w4,w5) x s (y8 nm ky d bs ws false)++ZI gd gm gs _ (v1,v2,v3,v4,a5) x s (y8 nm ky d bs (V4 ws (F8 z)) false))) ?_ rfl;repeat' first|refine Z ?_|intro
  apply U2 [2,3,4,5,6,7,8,9,10];exact rfl;exact rfl;exact rfl;kernel_rfl;intro _ _;refine R7 (a5S (I:=⟨⟨⟨gd2,gs2,cc2,w1⟩,gl⟩,_,w2,w3,w4,w5⟩) (x:=x) (s:=s) (c:=y8 nm ky d bs ws false) (t:=F8 z) hw) (λu m1 hu=>?_);obtain⟨rfl,b5,rfl⟩:=hu;rw[Eu];refine j3 (N7 (eX ⟨⟨⟨gd2,gs2,cc2,w1⟩,gl⟩,_,w2,w3,w4,b5⟩ x s (y8 nm ky d bs (V4 ws (F8 z)) false)) [] rfl rfl lpr rfl ?_);repeat' first|refine Z ?_|intro
  refine l9 _ ⟨(v1,v2,v3,v4,a5),(w1,w2,w3,w4,b5),rfl,rfl⟩ ?_;exact u7
theorem Px (q:SdI)(hq:i=0/\c0=E8 q.gc/\r0=E8 q.gr\/i=1/\c1=E8 q.gc/\r1=E8 q.gr){z:TxX}{s:SlX}(hz:TxW z)(hl:(F8 z).length<=6000)(hw:ws.length<16) :
  Av.Spec prog GL 28 [Q9 c0 c1 r0 r1,int i,x9 z] (T9 q x s (y8 nm ky d bs ws false)) λu m=>∃ v w,u=d9 true/\m=T9 { q with v:=v,w:=w } x s (y8 nm ky d bs (ws++[F8 z]) false):=by
 have:=XZ (x:=x) (nm:=nm) (ky:=ky) (d:=d) (bs:=bs) (c0:=c0) (c1:=c1) (r0:=r0) (r1:=r1) (s:=s) q hq hz (show ws.length<=1000000 by omega);rw[show V4 ws (F8 z)=ws++[F8 z] by unfold V4;rw[if_neg om,if_neg om]] at this;exact this
end

theorem TD {n:Nat}(h:n<18446744073709551616):z8 (Q5 n)=.agg 4 [.lit (.int .u64 (n:Int)),.lit (.int .u64 0),.lit (.int .u64 0),.lit (.int .u64 0)]:=by
 have e:(Q5 n).n=n:=qD om;have h0:lm n 0=n:=by
  unfold lm;rw[Nat.pow_zero,Nat.div_one,Nat.mod_eq_of_lt h]
 have hz:∀ i,1<=i->lm n i=0:=λi hi=>by
  unfold lm;rw[Nat.div_eq_of_lt (Nat.lt_of_lt_of_le h (by
   have:=Nat.pow_le_pow_right (n:=18446744073709551616) dc hi;rw[Nat.pow_one] at this;exact this))]
 show Y6 (Q5 n).n=_;rw[e,Y6,h0,hz 1 dc,hz 2 dc,hz 3 dc];rfl
theorem a0u {P:Program}{gl:List (Nat × AV)}{f:FuncId}{a b:AV}{r:List AV}{m:List Av.Piece}{K:AV->List Av.Piece->Prop}(hi:∀ ok w v,RV0 ok w a v->RV0 ok w b v)(h:Av.Spec P gl f (b::r) m K):Av.Spec P gl f (a::r) m K:=Av.Spec.mk λok w c hS hv=>by
 refine h.run ok w c hS ?_;rw[RVs] at hv ⊢;obtain⟨u,us,h1,h2,h3⟩:=hv;exact⟨u,us,h1,hi _ _ _ h2,h3⟩
abbrev GD:List Ent:=(aJ [] [97,110,110] [120] (Q5 30)).1
abbrev GA:List Ent:=(aJ GD [98,111,98] [99,47,120] (Q5 9)).1
abbrev XU:List Ent:=(aJ GA [101,115,99,114,111,119,47,99] [120] (Q5 9)).1
def YJ (o p:Bs):Bs:=D7 115 3++r9 111 o++r9 113 o++r9 112 p
abbrev Oo:List Ent:=(P7 XU ([75]++r9 105 [110]) (YJ [107] [110])).1
abbrev G5:List Ent:=(P7 Oo ([72]++r9 105 [99]) (YJ [110] [99])).1
theorem Oq:DOk XU:=xW (xW (xW .nil))
theorem Om:DOk Oo:=VP Oq kr
theorem iZ:DOk G5:=VP Om kr
theorem QT:dO G5=G5:=iZ.id
theorem ZA:G5.length<=10:=nlb kr
theorem ZC:Q4 G5 [107]=false:=by kernel_rfl
instance b9G:Ans prog GL 62 [.lit (.slice none 0 0),str [97,110,110],str [120],.agg 4 [.lit (.int .u64 30),.lit (.int .u64 0),.lit (.int .u64 0),.lit (.int .u64 0)]] True (.tup [U4 GD,int (aJ [] [97,110,110] [120] (Q5 30)).2]):=⟨λ_=>a0u (b:=.sl 2 [] none) (λok w v h=>Imp.nilN ok w v h) (by
 rw[<- show z8 (Q5 30)=.agg 4 [.lit (.int .u64 30),.lit (.int .u64 0),.lit (.int .u64 0),.lit (.int .u64 0)] from TD (n:=30) dc];exact(XY (d:=[]) (xs:=[]) (id:=none)).spec .nil)⟩
instance b9F:Ans prog GL 62 [.sl 2 (GD.map D5) none,str [98,111,98],str [99,47,120],.agg 4 [.lit (.int .u64 9),.lit (.int .u64 0),.lit (.int .u64 0),.lit (.int .u64 0)]] True (.tup [U4 GA,int (aJ GD [98,111,98] [99,47,120] (Q5 9)).2]):=⟨λ_=>by
 rw[<- show z8 (Q5 9)=.agg 4 [.lit (.int .u64 9),.lit (.int .u64 0),.lit (.int .u64 0),.lit (.int .u64 0)] from TD (n:=9) dc];exact(XY (d:=GD) (xs:=GD.map D5) (id:=none)).spec (xW .nil)⟩
instance b9E:Ans prog GL 62 [.sl 2 (GA.map D5) none,str [101,115,99,114,111,119,47,99],str [120],.agg 4 [.lit (.int .u64 9),.lit (.int .u64 0),.lit (.int .u64 0),.lit (.int .u64 0)]] True (.tup [U4 XU,int (aJ GA [101,115,99,114,111,119,47,99] [120] (Q5 9)).2]):=⟨λ_=>by
 rw[<- show z8 (Q5 9)=.agg 4 [.lit (.int .u64 9),.lit (.int .u64 0),.lit (.int .u64 0),.lit (.int .u64 0)] from TD (n:=9) dc];exact(XY (d:=GA) (xs:=GA.map D5) (id:=none)).spec (xW (xW .nil))⟩
attribute [local irreducible] aJ P7
instance c0H {o p:Bs}:Ans prog GL 65 [str o,str p] (o.length<=1000000/\p.length<=1000000) (str (YJ o p)):=⟨λhp=>by
 obtain⟨h1,h2⟩:=hp;refine ze func65 ntmps65 λ_ hs=>?_;exact j4⟩
instance c0y:Ans prog GL 24 [] True (.sl 2 (G5.map D5) none):=⟨λ_=>by
 have hc:=Oq;have hd:=Om;have l1:([107]:Bs).length<=1000000/\([110]:Bs).length<=1000000:=⟨dc,dc⟩;have l2:([110]:Bs).length<=1000000/\([99]:Bs).length<=1000000:=⟨dc,dc⟩;refine ze func24 ntmps24 λ_ hs=>?_;exact j4⟩
end Go.Proofs.Z

namespace Go.Proofs.Z
open Go Go.RowKit Tw Av
section
variable {r:Hsh}{k:Int}{c:Bs}
def dB (c:Bs)(k:Int)(r:Hsh):TxX:={ Y5 with k:=3,i:=[107],y:=[107,101,121],e:=1000,h:=⟨c,k,1,r⟩ }
theorem Tc (hc:c.length<=32)(hk:1<=k/\k<=1000):TxG (dB c k r):=
 have z:(0:Int)<=0/\(0:Int)<=1099511627776:=dc
 have n0:([]:Bs).length<=4000:=dc
 ⟨by show (0:Int)<=3/\(3:Int)<=16;decide,by show 1<=4000;decide,n0,n0,n0,by show 3<=4000;decide,by show (0:Int)<=1000/\(1000:Int)<=1099511627776;decide,by show c.length<=4000;omega,by show (0:Int)<=k/\k<=1099511627776;omega,by show (0:Int)<=1/\(1:Int)<=1099511627776;decide,
  z,z,z,z,n0,n0,n0,n0,n0,n0,SS,Xq,nlb (show Nat.ble (mW pX).length 4000=true by kernel_rfl)⟩
theorem Ta (hk:1<=k/\k<=1000):TxW (dB c k r):=
 have gz:GapW pX:=⟨⟨dc,dc,dc,dc⟩,⟨dc,dc,dc,dc⟩,dc⟩;have z:(0:Int)<=9223372036854775807:=by decide
 ⟨by show (3:Int)<=9223372036854775807;decide,by show (1000:Int)<=9223372036854775807;decide,by show k<=9223372036854775807;omega,by show (1:Int)<=9223372036854775807;decide,z,z,z,z,⟨Nat.zero_le _,z,z⟩,gz⟩
theorem DI (hc:c.length<=32):(F8 (dB c k r)).length<=1000:=by
 have h1:=uS 99 c;have h2:=uS 114 r.l;have h3:=r.len;have h4:=yX 104 k;have e:(F8 (dB c k r)).length+(r9 99 ([]:Bs)).length=(F8 (dB [] k r)).length+(r9 99 c).length:=by
  unfold F8 dB;simp only[List.length_append];omega
 have e2:(F8 (dB [] k r)).length+(r9 114 E9.l).length=(F8 (dB [] k E9)).length+(r9 114 r.l).length:=by
  unfold F8 dB;simp only[List.length_append];omega
 have e4:(F8 (dB [] k E9)).length+(D7 104 0).length=(F8 (dB [] 0 E9)).length+(D7 104 k).length:=by
  unfold F8 dB;simp only[List.length_append];omega
 have e3:(F8 (dB [] 0 E9)).length<=500:=nlb kr;omega
def AZ (c:Bs)(k:Int)(r:Hsh):Cli:=CE [107,101,121] 1000 ⟨c,k,1,r⟩
def yI (d:List Ent)(c:Bs)(k:Int)(r:Hsh):List Ent:=jK d (I9 [67] [107]) (Y1 (AZ c k r))
theorem a7L (hc:1<=c.length/\c.length<=32)(hk:1<=k/\k<=1000):aK (AZ c k r)=true:=by
 unfold aK AZ CE;dsimp only;have h0:([107,101,121]:Bs).length<=64/\(1:Int)<=1000/\(1000:Int)<=1099511627776/\1<=[jE ⟨c,k,1,r⟩].length/\[jE ⟨c,k,1,r⟩].length<=32:=⟨dc,dc,dc,Nat.le_refl 1,by show 1<=32;decide⟩;rw[dT h0,Bool.true_and,List.all_eq_true];intro i hi;obtain rfl:i=0:=by
  have:=List.mem_range.1 hi;simp at this;exact this
 unfold rJ;have h1:1<=c.length/\c.length<=32/\1<=k/\k<=1099511627776/\(0:Int)<=1/\(1:Int)<=1099511627776:=⟨hc.1,hc.2,hk.1,om,dc,dc⟩;have h2:aO (bN c ⟨k,1,r⟩)=true:=by
  unfold aO bN;exact dT h1
 rw[show ([jE ⟨c,k,1,r⟩].getD 0 R8)=⟨k,1,r⟩ from rfl,h2];rfl
theorem a7J (hc:c.length<=32):(Y1 (AZ c k r)).length<=1000:=by
 show (r9 99 c++r9 107 [107,101,121]++D7 112 1000++D7 102 0++r9 115 (r9 115 (r9 99 c++D7 104 k++D7 116 1++r9 114 r.l)++[])).length<=1000;have h1:=uS 99 c;have h2:=uS 114 r.l;have h3:=r.len;have h4:=uS 107 [107,101,121];have h5:=yX 112 1000;have h6:=yX 102 0;have h7:=yX 104 k;have h8:=yX 116 1;have h9:=uS 115 (r9 99 c++D7 104 k++D7 116 1++r9 114 r.l);have h10:=uS 115 (r9 115 (r9 99 c++D7 104 k++D7 116 1++r9 114 r.l)++[]);simp only[List.length_append,List.length_nil,List.length_cons] at *;omega
theorem Si {d:List Ent}{h t:Int}(hd:DOk d)(hl:d.length<=1000)(hc:1<=c.length/\c.length<=32)(hk:1<=k/\k<=1000)(hn:Q4 d [107]=false):H9 d (dB c k r) h t=(yI d c k r,oJ)/\DOk (yI d c k r)/\A9 (yI d c k r) [107]=k:=by
 have hm:=a7L (r:=r) hc hk;have hlb:=a7J (k:=k) (r:=r) hc.2;have hp:M6 d (I9 [67] [107]) (Y1 (AZ c k r))=0:=by
  unfold M6;rw[if_neg (by
   have:(I9 [67] [107]).length<=400:=by decide
   omega)]
  split
  ·rfl
  rw[if_neg om]
 have hD:=hd.put hp;refine⟨?_,hD,?_⟩
 ·rw[QS rfl];unfold pI;rw[if_neg (by show ¬ J6 [107]=false;decide),if_neg (by show ¬ Q4 d [107]=true;rw[hn];decide)];have e0:uE (dB c k r).y (dB c k r).e (dB c k r).h=0:=by
   unfold uE;exact if_pos hm
  have e1:uD (dB c k r).y (dB c k r).e (dB c k r).h=AZ c k r:=by
   unfold uD;exact if_pos hm
  rw[if_neg (by rw[e0];decide),e1];unfold rC iO P7;rw[if_pos (show M6 d (I9 [67] (dB c k r).i) (Y1 (AZ c k r))=0 from hp)];rfl
 have hv:N8 (yI d c k r) (I9 [67] [107])=Y1 (AZ c k r):=by
  unfold yI;rw[Cj hd.s,if_pos rfl]
 obtain⟨r1,r2⟩:=a1R hm;unfold A9 Q4 U9;rw[hv,r1,r2];rfl
theorem Fa {d:List Ent}{h t:Int}(hd:DOk d)(hl:d.length<=1000)(hc:1<=c.length/\c.length<=32)(hk:1<=k/\k<=1000)(hn:Q4 d [107]=false):M7 d ⟨h,t,[F8 (dB c k r)]⟩=(yI d c k r,[oJ],[]):=by
 obtain⟨a1,a2⟩:=Fq (Tc (r:=r) hc.2 hk) (Nat.le_trans (DI hc.2) dc);obtain⟨b1,_,_⟩:=Si (r:=r) (h:=h) (t:=t) hd hl hc hk hn;generalize F8 (dB c k r)=B at a1 a2 ⊢;show iC h t (d,[],[]) B=_;unfold iC;rw[if_pos a2,a1];unfold zD;dsimp only;rw[b1,if_neg (by rintro⟨_,h2⟩;exact absurd h2 (by show ¬ (13:Int)<=3;decide))];rfl
end
end Go.Proofs.Z

namespace Go.Proofs.Z
open Go Go.RowKit Tw Av Go.Proofs.Tryz
section
variable {bs:List BlkX}{nm:Bs}
abbrev G7:Bs:=[107,101,121]
theorem Py (hn:1<=nm.length/\nm.length<=32/\G7.length<=64){I:DvI}{x:DvX}(h:Ro x bs):Av.Spec prog GL 22 [ptr I.gd,str nm,str [107,101,121],.sl 2 (G5.map D5) none] (I1 I x) λu m=>∃ gs gc v,u=.tup [ptr gc,int 0]/\m=ZI I.gd I.gm gs gc v x (F3 bs) (y8 nm G7 G5 bs [] false):=by
 refine(a6b (nm:=nm) (ky:=G7) (gen:=G5) (d:=G5) (id:=none) rfl hn h (Nat.le_trans ZA dc) (by rw[QT];exact iZ) QT).mono ?_;rintro u m ⟨J,h1,h2,rfl,rfl⟩;obtain⟨⟨⟨⟨gd,gm,v1⟩,gs⟩,gc,v2,v3,v4,v5⟩,hJ⟩:∃ J':ChI,J'=J:=⟨J,rfl⟩;subst hJ;dsimp only at h1 h2;subst h1 h2;exact⟨gs,gc,(v1,v2,v3,v4,v5),rfl,rfl⟩
theorem Pt (hn:1<=nm.length/\nm.length<=32/\G7.length<=64){I:R6I}{x:DvX}(h:Ro x bs):Av.Spec prog GL 25 [ptr I.gd,str nm,str [107,101,121],.sl 2 (G5.map D5) none] (O0 I x) λu m=>∃ gl gc v,u=.tup [ptr gc,int 0]/\m=NV I.gd I.gs I.c gl gc v x (F3 bs) (y8 nm G7 G5 bs [] false):=by
 refine(a5J (nm:=nm) (ky:=G7) (gen:=G5) (d:=G5) (id:=none) rfl hn h (Nat.le_trans ZA dc) (by rw[QT];exact iZ) QT).mono ?_;rintro u m ⟨J,h1,h2,h3,rfl,rfl⟩;obtain⟨⟨⟨⟨gd,gs,cc,v1⟩,gl⟩,gc,v2,v3,v4,v5⟩,hJ⟩:∃ J':R20I,J'=J:=⟨J,rfl⟩;subst hJ;dsimp only at h1 h2 h3;subst h1 h2 h3;exact⟨gl,gc,(v1,v2,v3,v4,v5),rfl,rfl⟩
abbrev bk1:BlkX:=O5 [] [] 1
theorem UR:(5000:Int)<=M3 3000:=by decide
theorem Lr:(aV [bk1]).length<=200:=nlb kr
theorem Jp {α:Type _}(a b c d e:List α):(a++b++c++d++e).Perm ((e++d)++(c++b)++a):=by
 refine List.perm_append_comm.trans ?_;rw[laa e d,laa e];refine List.Perm.append_left e ?_;refine List.perm_append_comm.trans ?_;rw[laa d];refine List.Perm.append_left d ?_;refine List.perm_append_comm.trans ?_;rw[laa c];exact List.Perm.append_left c List.perm_append_comm
abbrev wU (gd gs gc:Nat)(v:V5)(s:SlX)(c:ChX):List Av.Piece:=[.var gc 113 (y7 gs v.2.1 v.2.2.1 v.2.2.2.1 v.2.2.2.2 c),.tail 64 1 v.2.1,.tail 42 35 v.2.2.1,.tail 106 15 v.2.2.2.1,.tail 9 1 v.2.2.2.2,.var gs 199 (EN gd s)]
abbrev zK (gd gl gc:Nat)(v:V5)(s:SlX)(c:ChX):List Av.Piece:=[.var gc 154 (V7 gl v.2.1 v.2.2.1 v.2.2.2.1 v.2.2.2.2 c),.tail 53 1 v.2.1,.tail 129 3 v.2.2.1,.tail 106 15 v.2.2.2.1,.tail 9 1 v.2.2.2.2,.var gl 235 (Ip gd s)]
structure Sd where
 q:SdI
 y:DvX
structure L21 (z:Sd):Prop where
 n:z.y.n=3000
 ar:z.y.ar=false
 ro:Ro z.y [bk1]
abbrev zB (nm:Bs)(z:Sd):List Av.Piece:=T9 z.q z.y (F3 [bk1]) (y8 nm G7 G5 [bk1] [] false)
def OU:Nat->Sd->Sd->AV
 | 0,_,_=>Q9 none none none none
 | 1,a,_=>Q9 (E8 a.q.gc) none (E8 a.q.gr) none
 | _,a,b=>Q9 (E8 a.q.gc) (E8 b.q.gc) (E8 a.q.gr) (E8 b.q.gr)
def PQ:Nat->Sd->Sd->List Av.Piece
 | 0,_,_=>[]
 | 1,a,_=>zB [97] a
 | _,a,b=>zB [97] a++zB [98] b
def h21:Nat->Sd->Sd->Prop
 | 0,_,_=>True
 | 1,a,_=>L21 a
 | _,a,b=>L21 a/\L21 b
abbrev L8 (nm:Bs)(bs:List BlkX):ChX:=y8 nm G7 G5 bs [] false
def OJ:Hsh:=uY (j5 (L8 [98] [bk1]))
def qC:TxX:=dB [98] 1 OJ
def aX:List BlkX:=[bk1]++[O5 [bk1] [F8 qC] 1]
def VM:Hsh:=uY (j5 (L8 [97] aX))
def sZ:TxX:=dB [97] 2 VM
def jX:List BlkX:=[bk1]++[O5 [bk1] [F8 sZ] 1]
structure LB21 (bs:List BlkX)(z:Sd):Prop where
 n:z.y.n=3000
 ar:z.y.ar=false
 ro:Ro z.y bs
def LX:Nat->List BlkX
 | 0=>[bk1]
 | _=>aX
def LW:Nat->List BlkX
 | 0=>[bk1]
 | 1=>[bk1]
 | _=>jX
abbrev dG (nm:Bs)(bs:List BlkX)(z:Sd):List Av.Piece:=T9 z.q z.y (F3 bs) (L8 nm bs)
def Bz:Sd:=⟨⟨0,0,0,0,0,0,0,0,0,((.bool false),(.bool false),(.bool false),(.bool false),(.bool false)),((.bool false),(.bool false),(.bool false),(.bool false),(.bool false))⟩,U0 3000⟩
theorem Cu {y:DvX}(hR:Ro y bs)(h1:1<=bs.length)(ht:O4 bs<=1000):(((L8 nm bs).ms.length=(L8 nm bs).hs.length+1/\(L8 nm bs).ms.length<=1000000)/\DOk (j5 (L8 nm bs)))/\((1<=(L8 nm bs).bl.length/\(L8 nm bs).bl.length<=1000000)/\(L8 nm bs).ky.length<=1000000/\O4 (L8 nm bs).bl<=9223372036854775807):=by
 have o:=vJ (nm:=nm) (ky:=G7) iZ hR.bg;have r:=ZT (nm:=nm) (ky:=G7) (ws:=[]) (dd:=false) iZ hR.bg;have e1:(L8 nm bs).bl.length=(L8 nm bs).hs.length:=r.bl;have e0:(L8 nm bs).ms.length=bs.length+1:=o.ms;have e2:(L8 nm bs).bl=bs:=Tg;have e3:(L8 nm bs).ky=G7:=o.ky;have hl:=hR.bg.l;rw[e2] at e1;rw[e2,e3];refine⟨⟨⟨om,om⟩,o.st⟩,⟨h1,om⟩,dc,om⟩
theorem Db {y:DvX}(hR:Ro y bs):bG (L8 nm bs)=⟨nm,bs.length,O4 bs,uY (j5 (L8 nm bs))⟩:=by
 have o:=vJ (nm:=nm) (ky:=G7) iZ hR.bg;have e2:(L8 nm bs).bl=bs:=Tg;have e3:(L8 nm bs).nm=nm:=o.nm;unfold bG;rw[e2,e3]
theorem Ns {h:Hdr}:Imp (.agg 100 [int 3,str [107],str [],str [],str [],str G7,int 1000,Q7 h,hA E9,.agg 12 [int 0,str [],str [],.agg 7 [str [],.agg 4 [.lit (.int .u64 0),.lit (.int .u64 0),.lit (.int .u64 0),.lit (.int .u64 0)],str [],str []],int 0,int 0],str [],int 0,.agg 3 [int 0,int 0,J2],.agg 9 [int 0,J2,J2,.agg 3 [int 0,int 0,J2],.agg 3 [int 0,int 0,J2]]]) (x9 { Y5 with k:=3,i:=[107],y:=[107,101,121],e:=1000,h:=h }):=by
 have e0:z8 wZ=.agg 4 [.lit (.int .u64 0),.lit (.int .u64 0),.lit (.int .u64 0),.lit (.int .u64 0)]:=kr
 have e:x9 { Y5 with k:=3,i:=[107],y:=[107,101,121],e:=1000,h:=h }=.agg 100 [int 3,str [107],str [],str [],str [],str G7,int 1000,Q7 h,hA E9,.agg 12 [int 0,str [],str [],.agg 7 [str [],z8 wZ,str [],str []],int 0,int 0],str [],int 0,.agg 3 [int 0,int 0,.sl 32 [] none],.agg 9 [int 0,.sl 2 [] none,.sl 2 [] none,.agg 3 [int 0,int 0,.sl 32 [] none],.agg 3 [int 0,int 0,.sl 32 [] none]]]:=rfl;rw[e,e0];exact ImpR.imp
theorem permA {α:Type _}(a b c:List α):(a++(b++c)).Perm (b++(a++c)):=by
 rw[<- laa,<- laa];exact List.Perm.append_right c List.perm_append_comm
theorem Ce {c:Bs}{k:Int}{r:Hsh}(h3:K20 3)(hc:c.length<=32)(hk:1<=k/\k<=1000):WsG ([]++[F8 (dB c k r)]):=⟨by show 1<=16;decide,λs hs=>by
 rw[List.nil_append,List.mem_singleton] at hs;rw[hs];refine⟨Nat.le_trans (DI hc) dc,λ_=>?_⟩;rw[(Fq (Tc (r:=r) hc hk) (Nat.le_trans (DI hc) dc)).1];exact h3⟩
theorem Jn {α:Type _}(a b c:List α):(a++(b++c)).Perm (c++(a++b)):=by
 rw[<- laa];exact List.perm_append_comm
set_option maxRecDepth 100000 in
theorem YC (h3:K20 3):Av.Spec prog GL 7 [] [] λu m=>∃ a b:Sd,LB21 aX a/\LB21 jX b/\u=.tup [vH a.q b.q,d9 true]/\m=dG [97] aX a++dG [98] jX b:=by
 refine ze func7 ntmps7 λ_ hs=>?_;repeat' first|refine Z ?_|intro
 rename_i g0 g1 g2;refine y9 (α:=Nat × Sd × Sd) (λz=>[(0,ptr g0),(1,d9 false),(2,ptr g1),(3,ptr g2),(4,int z.1)])
  (λz=>[Av.Piece.var g2 80 (.agg 2 [str [97],str [98]]),Av.Piece.var g1 29 (OU z.1 z.2.1 z.2.2),Av.Piece.var g0 29 (Q9 none none none none)]++PQ z.1 z.2.1 z.2.2)
  (λz=>z.1<=2/\h21 z.1 z.2.1 z.2.2) (λz=>2-z.1) (0,Bz,Bz) zc slr ⟨Nat.zero_le _,trivial⟩ ?_
 have hR0:Ro (U0 3000) []:=Gd dc dc;have hnB:1<=([98]:Bs).length/\([98]:Bs).length<=32/\G7.length<=64:=by decide
 have ws0:WsG []:=⟨dc,sm⟩;have rm0:((aV ([]:List BlkX)).length:Int)+1004*(([]:List Bs).length:Int)+44<=M3 (U0 3000).n:=by
  have h1:=UR;have e:(aV ([]:List BlkX)).length=0:=rfl;rw[e];show ((0:Nat):Int)+1004*((0:Nat):Int)+44<=M3 3000;omega
 have hnA:1<=([97]:Bs).length/\([97]:Bs).length<=32/\G7.length<=64:=dc
 rintro⟨i,za,zb⟩ ⟨hi,hh⟩;dsimp only at hi hh ⊢;obtain rfl|rfl|rfl:i=0\/i=1\/i=2:=by omega
 ·dsimp only[OU,PQ];clear hh;rw[show ((0:Nat):Int)=0 from rfl];repeat' (first|refine eP ?_|refine K3 ?_|refine M9 ?_|refine J8 ?_|intro _)
  refine wE [1,2,3,0,4,5,6,7,8,9,10] kr rfl hs kr ?_;repeat' first|refine Z ?_|intro
  apply wL [] [];exact rfl;exact rfl;kernel_rfl;kernel_rfl;kernel_rfl;exact trivial;intro _ _;refine R7 (Qb (n:=3000) dc dc) (λu m1 hu=>?_);obtain⟨I,rfl,rfl⟩:=hu;refine j3 (N7 [] (I1 I (U0 3000)) rfl rfl lpr rfl ?_);repeat' first|refine Z ?_|intro
  apply wL [] [3,4,5];exact rfl;exact rfl;kernel_rfl;kernel_rfl;kernel_rfl;exact trivial;intro _ _;refine R7 (Py hnA (I:=I) hR0) (λu m1 hu=>?_);obtain⟨gs,gc,v,rfl,rfl⟩:=hu;refine j3 (N7 (I1 ⟨I.gd,I.gm,v.1⟩ (U0 3000)) (wU I.gd gs gc v (F3 []) (y8 [97] G7 G5 [] [] false)) rfl rfl (List.perm_append_comm (l₁:=wU I.gd gs gc v (F3 []) (y8 [97] G7 G5 [] [] false)) (l₂:=I1 ⟨I.gd,I.gm,v.1⟩ (U0 3000))) rfl ?_);refine oQ ([Av.Piece.var g2 80 (.agg 2 [str [97],str [98]]),Av.Piece.var g1 29 (Q9 none none none none),Av.Piece.var g0 29 (Q9 none none none none)]++I1 ⟨I.gd,I.gm,v.1⟩ (U0 3000)++wU I.gd gs gc v (F3 []) (y8 [97] G7 G5 [] [] false)) ?_ rfl
  iterate 6 (first|refine nO ?_|refine lG ?_)
  repeat' (first|refine eP ?_|refine K3 ?_|refine M9 ?_|refine J8 ?_|intro _)
  refine wE [1,2,3,0,4,5,6,7,8,9,10] kr rfl hs kr ?_;repeat' first|refine Z ?_|intro
  apply wL [] [];exact rfl;exact rfl;kernel_rfl;kernel_rfl;kernel_rfl;exact trivial;intro _ _;refine R7 (Pq (n:=3000) dc dc) (λu m1 hu=>?_);obtain⟨J,rfl,rfl⟩:=hu;refine j3 (N7 [] (O0 J (U0 3000)) rfl rfl lpr rfl ?_);repeat' first|refine Z ?_|intro
  apply wL [] [12,13,14];exact rfl;exact rfl;kernel_rfl;kernel_rfl;kernel_rfl;exact trivial;intro _ _;refine R7 (Pt hnA (I:=J) hR0) (λu m1 hu=>?_);obtain⟨gl,gr,w,rfl,rfl⟩:=hu;refine j3 (N7 (O0 ⟨J.gd,J.gs,J.c,w.1⟩ (U0 3000)) (zK J.gd gl gr w (F3 []) (y8 [97] G7 G5 [] [] false)) rfl rfl (List.perm_append_comm (l₁:=zK J.gd gl gr w (F3 []) (y8 [97] G7 G5 [] [] false)) (l₂:=O0 ⟨J.gd,J.gs,J.c,w.1⟩ (U0 3000))) rfl ?_);refine oQ ([Av.Piece.var g2 80 (.agg 2 [str [97],str [98]]),Av.Piece.var g1 29 (Q9 none none none none),Av.Piece.var g0 29 (Q9 none none none none)]++I1 ⟨I.gd,I.gm,v.1⟩ (U0 3000)++wU I.gd gs gc v (F3 []) (y8 [97] G7 G5 [] [] false)++O0 ⟨J.gd,J.gs,J.c,w.1⟩ (U0 3000)++zK J.gd gl gr w (F3 []) (y8 [97] G7 G5 [] [] false)) ?_ rfl;repeat' first|refine Z ?_|intro
  refine H6 (args:=[Q9 (E8 gc) none (E8 gr) none,int 0,int 1]) (T9 ⟨I.gd,I.gm,gs,gc,J.gd,J.gs,J.c,gl,gr,v,w⟩ (U0 3000) (F3 []) (y8 [97] G7 G5 [] [] false)) ([Av.Piece.var g2 80 (.agg 2 [str [97],str [98]]),Av.Piece.var g1 29 (Q9 (E8 gc) none (E8 gr) none),Av.Piece.var g0 29 (Q9 none none none none)]) (by rw[hs];exact QH (nm:=[97]) (ky:=G7) (d:=G5) (bs:=[]) (ws:=[]) (x:=U0 3000) (c0:=E8 gc) (c1:=none) (r0:=E8 gr) (r1:=none) (i:=0) (t:=1) ⟨I.gd,I.gm,gs,gc,J.gd,J.gs,J.c,gl,gr,v,w⟩ (.inl ⟨rfl,rfl,rfl⟩) iZ hR0 dc ws0 rfl rm0 sm) (λu m1 hh=>?_) (Jp ([Av.Piece.var g2 80 (.agg 2 [str [97],str [98]]),Av.Piece.var g1 29 (Q9 (E8 gc) none (E8 gr) none),Av.Piece.var g0 29 (Q9 none none none none)]) (I1 ⟨I.gd,I.gm,v.1⟩ (U0 3000)) (wU I.gd gs gc v (F3 []) (y8 [97] G7 G5 [] [] false)) (O0 ⟨J.gd,J.gs,J.c,w.1⟩ (U0 3000)) (zK J.gd gl gr w (F3 []) (y8 [97] G7 G5 [] [] false)));obtain⟨v',w',y,⟨hn,ha,hR⟩,rfl,rfl⟩:=hh;refine fF (λok w h=>h.perm (m':=([Av.Piece.var g2 80 (.agg 2 [str [97],str [98]]),Av.Piece.var g1 29 (Q9 (E8 gc) none (E8 gr) none),Av.Piece.var g0 29 (Q9 none none none none)])++T9 ⟨I.gd,I.gm,gs,gc,J.gd,J.gs,J.c,gl,gr,v',w'⟩ y (F3 [bk1]) (y8 [97] G7 G5 [bk1] [] false)) List.perm_append_comm) ?_;repeat' first|refine Z ?_|intro
  exact o9 (1,⟨⟨I.gd,I.gm,gs,gc,J.gd,J.gs,J.c,gl,gr,v',w'⟩,y⟩,zb) zc slr ⟨by show (1:Nat)<=2;decide,⟨hn,ha,hR⟩⟩ (by show (2-1:Nat)<2-0;decide)
 ·dsimp only[OU,PQ];have hh0:L21 za:=hh;clear hh;rw[show ((1:Nat):Int)=1 from rfl];repeat' (first|refine eP ?_|refine K3 ?_|refine M9 ?_|refine J8 ?_|intro _)
  refine wE [1,2,3,0,4,5,6,7,8,9,10] kr rfl hs kr ?_;repeat' first|refine Z ?_|intro
  apply wL [] [];exact rfl;exact rfl;kernel_rfl;kernel_rfl;kernel_rfl;exact trivial;intro _ _;refine R7 (Qb (n:=3000) dc dc) (λu m1 hu=>?_);obtain⟨I,rfl,rfl⟩:=hu;refine j3 (N7 [] (I1 I (U0 3000)) rfl rfl lpr rfl ?_);repeat' first|refine Z ?_|intro
  apply wL [] [21,22,23];exact rfl;exact rfl;kernel_rfl;kernel_rfl;kernel_rfl;exact trivial;intro _ _;refine R7 (Py hnB (I:=I) hR0) (λu m1 hu=>?_);obtain⟨gs,gc,v,rfl,rfl⟩:=hu;refine j3 (N7 (I1 ⟨I.gd,I.gm,v.1⟩ (U0 3000)) (wU I.gd gs gc v (F3 []) (y8 [98] G7 G5 [] [] false)) rfl rfl (List.perm_append_comm (l₁:=wU I.gd gs gc v (F3 []) (y8 [98] G7 G5 [] [] false)) (l₂:=I1 ⟨I.gd,I.gm,v.1⟩ (U0 3000))) rfl ?_);refine oQ (([Av.Piece.var g2 80 (.agg 2 [str [97],str [98]]),Av.Piece.var g1 29 (Q9 (E8 za.q.gc) none (E8 za.q.gr) none),Av.Piece.var g0 29 (Q9 none none none none)]++zB [97] za)++I1 ⟨I.gd,I.gm,v.1⟩ (U0 3000)++wU I.gd gs gc v (F3 []) (y8 [98] G7 G5 [] [] false)) ?_ rfl
  iterate 6 (first|refine nO ?_|refine lG ?_)
  repeat' (first|refine eP ?_|refine K3 ?_|refine M9 ?_|refine J8 ?_|intro _)
  refine wE [1,2,3,0,4,5,6,7,8,9,10] kr rfl hs kr ?_;repeat' first|refine Z ?_|intro
  apply wL [] [];exact rfl;exact rfl;kernel_rfl;kernel_rfl;kernel_rfl;exact trivial;intro _ _;refine R7 (Pq (n:=3000) dc dc) (λu m1 hu=>?_);obtain⟨J,rfl,rfl⟩:=hu;refine j3 (N7 [] (O0 J (U0 3000)) rfl rfl lpr rfl ?_);repeat' first|refine Z ?_|intro
  apply wL [] [30,31,32];exact rfl;exact rfl;kernel_rfl;kernel_rfl;kernel_rfl;exact trivial;intro _ _;refine R7 (Pt hnB (I:=J) hR0) (λu m1 hu=>?_);obtain⟨gl,gr,w,rfl,rfl⟩:=hu;refine j3 (N7 (O0 ⟨J.gd,J.gs,J.c,w.1⟩ (U0 3000)) (zK J.gd gl gr w (F3 []) (y8 [98] G7 G5 [] [] false)) rfl rfl (List.perm_append_comm (l₁:=zK J.gd gl gr w (F3 []) (y8 [98] G7 G5 [] [] false)) (l₂:=O0 ⟨J.gd,J.gs,J.c,w.1⟩ (U0 3000))) rfl ?_);refine oQ (([Av.Piece.var g2 80 (.agg 2 [str [97],str [98]]),Av.Piece.var g1 29 (Q9 (E8 za.q.gc) none (E8 za.q.gr) none),Av.Piece.var g0 29 (Q9 none none none none)]++zB [97] za)++I1 ⟨I.gd,I.gm,v.1⟩ (U0 3000)++wU I.gd gs gc v (F3 []) (y8 [98] G7 G5 [] [] false)++O0 ⟨J.gd,J.gs,J.c,w.1⟩ (U0 3000)++zK J.gd gl gr w (F3 []) (y8 [98] G7 G5 [] [] false)) ?_ rfl;repeat' first|refine Z ?_|intro
  refine H6 (args:=[Q9 (E8 za.q.gc) (E8 gc) (E8 za.q.gr) (E8 gr),int 1,int 1]) (T9 ⟨I.gd,I.gm,gs,gc,J.gd,J.gs,J.c,gl,gr,v,w⟩ (U0 3000) (F3 []) (y8 [98] G7 G5 [] [] false)) (([Av.Piece.var g2 80 (.agg 2 [str [97],str [98]]),Av.Piece.var g1 29 (Q9 (E8 za.q.gc) (E8 gc) (E8 za.q.gr) (E8 gr)),Av.Piece.var g0 29 (Q9 none none none none)]++zB [97] za)) (by rw[hs];exact QH (nm:=[98]) (ky:=G7) (d:=G5) (bs:=[]) (ws:=[]) (x:=U0 3000) (c0:=E8 za.q.gc) (c1:=E8 gc) (r0:=E8 za.q.gr) (r1:=E8 gr) (i:=1) (t:=1) ⟨I.gd,I.gm,gs,gc,J.gd,J.gs,J.c,gl,gr,v,w⟩ (.inr ⟨rfl,rfl,rfl⟩) iZ hR0 dc ws0 rfl rm0 sm) (λu m1 hh=>?_) (Jp (([Av.Piece.var g2 80 (.agg 2 [str [97],str [98]]),Av.Piece.var g1 29 (Q9 (E8 za.q.gc) (E8 gc) (E8 za.q.gr) (E8 gr)),Av.Piece.var g0 29 (Q9 none none none none)]++zB [97] za)) (I1 ⟨I.gd,I.gm,v.1⟩ (U0 3000)) (wU I.gd gs gc v (F3 []) (y8 [98] G7 G5 [] [] false)) (O0 ⟨J.gd,J.gs,J.c,w.1⟩ (U0 3000)) (zK J.gd gl gr w (F3 []) (y8 [98] G7 G5 [] [] false)));obtain⟨v',w',y,⟨hn,ha,hR⟩,rfl,rfl⟩:=hh;refine fF (λok w h=>h.perm (m':=(([Av.Piece.var g2 80 (.agg 2 [str [97],str [98]]),Av.Piece.var g1 29 (Q9 (E8 za.q.gc) (E8 gc) (E8 za.q.gr) (E8 gr)),Av.Piece.var g0 29 (Q9 none none none none)]++zB [97] za))++T9 ⟨I.gd,I.gm,gs,gc,J.gd,J.gs,J.c,gl,gr,v',w'⟩ y (F3 [bk1]) (y8 [98] G7 G5 [bk1] [] false)) List.perm_append_comm) ?_;repeat' first|refine Z ?_|intro
  exact o9 (2,za,⟨⟨I.gd,I.gm,gs,gc,J.gd,J.gs,J.c,gl,gr,v',w'⟩,y⟩) zc slr ⟨by show (2:Nat)<=2;decide,hh0,⟨hn,ha,hR⟩⟩ (by show (2-2:Nat)<2-1;decide)
 dsimp only[OU,PQ];obtain⟨hA,hB⟩:L21 za/\L21 zb:=hh;rw[show ((2:Nat):Int)=2 from rfl];repeat' first|refine Z ?_|intro
 refine y9 (α:=Nat × Sd × Sd) (λz=>[(0,ptr g0),(1,d9 false),(2,ptr g1),(10,int z.1)])
  (λz=>[Av.Piece.var g2 80 (.agg 2 [str [97],str [98]]),Av.Piece.var g1 29 (vH z.2.1.q z.2.2.q),Av.Piece.var g0 29 (Q9 none none none none)]++(dG [97] (LX z.1) z.2.1++dG [98] (LW z.1) z.2.2))
  (λz=>z.1<=2/\LB21 (LX z.1) z.2.1/\LB21 (LW z.1) z.2.2) (λz=>2-z.1) (0,za,zb) zc slr ⟨Nat.zero_le _,⟨hA.n,hA.ar,hA.ro⟩,⟨hB.n,hB.ar,hB.ro⟩⟩ ?_
 clear hA hB;rintro⟨i,ya,yb⟩ ⟨hi,hA,hB⟩;dsimp only at hi hA hB ⊢;obtain rfl|rfl|rfl:i=0\/i=1\/i=2:=by omega
 ·dsimp only[LX,LW] at hA hB ⊢;rw[show ((0:Nat):Int)=0 from rfl];repeat' first|refine Z ?_|intro
  rw[show (1:Int)-0=1 from rfl];have hup:=Cu (nm:=[98]) hB.ro dc dc;have htp:(lV [107] (bG (L8 [98] [bk1])) (cK (L8 [98] [bk1]).ky (bG (L8 [98] [bk1])))).h=⟨[98],1,1,OJ⟩:=Db (nm:=[98]) hB.ro;repeat' first|refine Z ?_|intro
  rw[htp];refine dF 83 (v':=x9 qC) Ns ?_;refine H6 (args:=[vH ya.q yb.q,int 0,x9 qC]) (dG [97] [bk1] ya) ([_,_,_,_,_]++dG [98] [bk1] yb) (by rw[hs];exact Px (nm:=[97]) (ky:=G7) (d:=G5) (bs:=[bk1]) (ws:=[]) (x:=ya.y) (c0:=E8 ya.q.gc) (c1:=E8 yb.q.gc) (r0:=E8 ya.q.gr) (r1:=E8 yb.q.gr) (i:=0) (z:=qC) (s:=F3 [bk1]) ya.q (.inl ⟨rfl,rfl,rfl⟩) (Ta dc) (Nat.le_trans (DI dc) dc) dc) (λu m1 hh=>?_) (permA [_,_,_,_,_] (dG [97] [bk1] ya) (dG [98] [bk1] yb));obtain⟨v,w,rfl,rfl⟩:=hh;repeat' first|refine Z ?_|intro
  have hws:WsG ([]++[F8 qC]):=Ce h3 dc dc;have hrm:((aV [bk1]).length:Int)+1004*(([]++[F8 qC]:List Bs).length:Int)+44<=M3 ya.y.n:=by
   have h1:=UR;have h2:=Lr;rw[hA.n];show ((aV [bk1]).length:Int)+1004*((1:Nat):Int)+44<=M3 3000;omega
  have hwl:∀ s∈([]++[F8 qC]:List Bs),s.length<=1000:=λs hs=>by
   rw[List.nil_append,List.mem_singleton] at hs;rw[hs];exact DI dc
  refine H6 (args:=[vH ya.q yb.q,int 0,int 1]) (T9 { ya.q with v:=v,w:=w } ya.y (F3 [bk1]) (y8 [97] G7 G5 [bk1] ([]++[F8 qC]) false)) ([_,_,_,_,_]++dG [98] [bk1] yb) (by rw[hs];exact QH (nm:=[97]) (ky:=G7) (d:=G5) (bs:=[bk1]) (ws:=[]++[F8 qC]) (x:=ya.y) (c0:=E8 ya.q.gc) (c1:=E8 yb.q.gc) (r0:=E8 ya.q.gr) (r1:=E8 yb.q.gr) (i:=0) (t:=1) { ya.q with v:=v,w:=w } (.inl ⟨rfl,rfl,rfl⟩) iZ hA.ro dc hws hA.ar hrm hwl) (λu m1 hh=>?_) lpr;obtain⟨v',w',y,⟨hn,ha,hR⟩,rfl,rfl⟩:=hh;refine fF (λok w h=>h.perm (m':=[_,_,_,_,_]++(dG [97] aX ⟨{ ya.q with v:=v',w:=w' },y⟩++dG [98] [bk1] yb)) (permA [_,_,_,_,_] (dG [97] aX ⟨{ ya.q with v:=v',w:=w' },y⟩) (dG [98] [bk1] yb))) ?_;repeat' first|refine Z ?_|intro
  refine o9 (1,⟨{ ya.q with v:=v',w:=w' },y⟩,yb) zc ((List.sublist_cons_self _ _).trans (List.sublist_cons_self _ _)) ⟨by show (1:Nat)<=2;decide,⟨hn.trans hA.n,ha,hR⟩,hB⟩ (by show (2-1:Nat)<2-0;decide)
 ·dsimp only[LX,LW] at hA hB ⊢;rw[show ((1:Nat):Int)=1 from rfl];repeat' first|refine Z ?_|intro
  rw[show (1:Int)-1=0 from rfl];have hup:=Cu (nm:=[97]) hA.ro dc dc;have htp:(lV [107] (bG (L8 [97] aX)) (cK (L8 [97] aX).ky (bG (L8 [97] aX)))).h=⟨[97],2,1,VM⟩:=Db (nm:=[97]) hA.ro;repeat' first|refine Z ?_|intro
  rw[htp];refine dF 83 (v':=x9 sZ) Ns ?_;refine H6 (args:=[vH ya.q yb.q,int 1,x9 sZ]) (dG [98] [bk1] yb) ([_,_,_,_,_]++dG [97] aX ya) (by rw[hs];exact Px (nm:=[98]) (ky:=G7) (d:=G5) (bs:=[bk1]) (ws:=[]) (x:=yb.y) (c0:=E8 ya.q.gc) (c1:=E8 yb.q.gc) (r0:=E8 ya.q.gr) (r1:=E8 yb.q.gr) (i:=1) (z:=sZ) (s:=F3 [bk1]) yb.q (.inr ⟨rfl,rfl,rfl⟩) (Ta dc) (Nat.le_trans (DI dc) dc) dc) (λu m1 hh=>?_) (Jn [_,_,_,_,_] (dG [97] aX ya) (dG [98] [bk1] yb));obtain⟨v,w,rfl,rfl⟩:=hh;repeat' first|refine Z ?_|intro
  have hws:WsG ([]++[F8 sZ]):=Ce h3 dc dc;have hrm:((aV [bk1]).length:Int)+1004*(([]++[F8 sZ]:List Bs).length:Int)+44<=M3 yb.y.n:=by
   have h1:=UR;have h2:=Lr;rw[hB.n];show ((aV [bk1]).length:Int)+1004*((1:Nat):Int)+44<=M3 3000;omega
  have hwl:∀ s∈([]++[F8 sZ]:List Bs),s.length<=1000:=λs hs=>by
   rw[List.nil_append,List.mem_singleton] at hs;rw[hs];exact DI dc
  refine H6 (args:=[vH ya.q yb.q,int 1,int 1]) (T9 { yb.q with v:=v,w:=w } yb.y (F3 [bk1]) (y8 [98] G7 G5 [bk1] ([]++[F8 sZ]) false)) ([_,_,_,_,_]++dG [97] aX ya) (by rw[hs];exact QH (nm:=[98]) (ky:=G7) (d:=G5) (bs:=[bk1]) (ws:=[]++[F8 sZ]) (x:=yb.y) (c0:=E8 ya.q.gc) (c1:=E8 yb.q.gc) (r0:=E8 ya.q.gr) (r1:=E8 yb.q.gr) (i:=1) (t:=1) { yb.q with v:=v,w:=w } (.inr ⟨rfl,rfl,rfl⟩) iZ hB.ro dc hws hB.ar hrm hwl) (λu m1 hh=>?_) lpr;obtain⟨v',w',y,⟨hn,ha,hR⟩,rfl,rfl⟩:=hh;refine fF (λok w h=>h.perm (m':=[_,_,_,_,_]++(dG [97] aX ya++dG [98] jX ⟨{ yb.q with v:=v',w:=w' },y⟩)) (Jn [_,_,_,_,_] (dG [97] aX ya) (dG [98] jX ⟨{ yb.q with v:=v',w:=w' },y⟩))) ?_;repeat' first|refine Z ?_|intro
  refine o9 (2,ya,⟨{ yb.q with v:=v',w:=w' },y⟩) zc ((List.sublist_cons_self _ _).trans (List.sublist_cons_self _ _)) ⟨by show (2:Nat)<=2;decide,hA,⟨hn.trans hB.n,ha,hR⟩⟩ (by show (2-2:Nat)<2-1;decide)
 dsimp only[LX,LW] at hA hB ⊢;rw[show ((2:Nat):Int)=2 from rfl];repeat' first|refine Z ?_|intro
 refine l9 (dG [97] aX ya++dG [98] jX yb) ⟨ya,yb,hA,hB,rfl,rfl⟩ ?_;exact u7
end
end Go.Proofs.Z
