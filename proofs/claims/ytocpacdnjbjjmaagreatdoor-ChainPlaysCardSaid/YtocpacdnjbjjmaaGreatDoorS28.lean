/- . -/
import Derived.Test.YtocpacdnjbjjmaaGreatDoorS27
namespace Go.Proofs.YtocpacdnjbjjmaaGreatDoor
open Go Go.RowKit Tw Av
theorem a4M {x:DvX}{s:SlX}{r:Bs}(h:LogOk x s){y:DvX}(hn:MpN y.es)(he:y.es=x.es)(hw:y.ws=qD (I5 s.l++y7 r).length (2+s.m.b / 64) (I5 s.l++y7 r))(hy:DvOk y):DFits (D9 (U9 y)) (s.l++y7 r) s.m:=by
 have hb:=h.b;have hsf:∀ a,D9 (U9 y) a=if 2+s.m.b / 64<=a/\64*(a-(2+s.m.b / 64))<(I5 s.l++y7 r).length then K9 ((I5 s.l++y7 r).drop (64*(a-(2+s.m.b / 64)).toNat)) else D9 x a:=by
  intro a;rw[Ld hn a];unfold Z8;rw[hw,Nf a (Nat.le_refl _),Ky he];split <;> rfl
 have hlow:∀ a,a<2->D9 (U9 y) a=D9 x a:=by
  intro a ha;rw[hsf,if_neg om]
 have hmr:=h.fit.mr;refine⟨vZ (Le hy),?_,hmr.e,hmr.b,?_,?_⟩
 ·intro j hj;rw[hsf];have hel:(I5 s.l).length=s.l.length%64:=by
   unfold I5;rw[List.length_drop];omega
  have hal:(I5 s.l++y7 r).length=s.l.length%64+(y7 r).length:=by rw[lla,hel]
  rw[lla] at hj ⊢;by_cases h1:s.l.length / 64<=j
  ·obtain⟨i,rfl⟩:∃ i,j=s.l.length / 64+i:=⟨j-s.l.length / 64,om⟩;rw[if_pos om];have e1:(2+((s.l.length / 64+i:Nat):Int)-(2+s.m.b / 64)).toNat=i:=by omega
   rw[e1];have:=a6i (l:=s.l) (r:=y7 r) (j:=i);rw[lla] at this;exact this
  ·rw[if_neg om];have h2:=h.fit.lg j om;rw[List.take_of_length_le (by rw[h.fit.len];omega)] at h2 ⊢;rw[h2,List.drop_append_of_le_length om,List.take_append_of_le_length (by rw[List.length_drop];omega)]
 ·rw[hlow _ om];exact hmr.at_
 ·rw[hlow _ om];exact hmr.oth
inductive CmS (x:DvX)(s:SlX)(r:Bs):DvX × SlX × Int->Prop where
 | no (e:Int) (he:e=11/\1048576<r.length\/e=15/\M0 x.n-s.m.b<(y7 r).length):CmS x s r (x,s,e)
 | lost (y:DvX) (hy:y.n=x.n) (ha:x.ar=true) (h:Old y s (xN s r)):CmS x s r (y,{ s with br:=true },14)
 | yes (y:DvX) (hy:y.n=x.n) (ha:y.ar=x.ar) (hr:r.length<=1048576) (h:LogOk y (xN s r)\/(190<=(F5 s r).e\/1000<(F5 s r).c)) (hf:DFits (D9 y) (s.l++y7 r) (F5 s r)/\DvOk y/\y.on=true/\y.ws=[]/\s.m.b+(y7 r).length<=M0 x.n):CmS x s r (y,xN s r,0)
theorem a6e {x:DvX}{s:SlX}{r:Bs}(h:LogOk x s):CmS x s r (fK x s r):=by
 unfold fK;rw[if_neg (by rw[h.br];decide)];by_cases h1:1048576<r.length
 ·rw[if_pos h1];exact .no 11 (.inl ⟨rfl,h1⟩)
 rw[if_neg h1];by_cases h2:M0 x.n-s.m.b<(y7 r).length
 ·rw[if_pos h2];exact .no 15 (.inr ⟨rfl,h2⟩)
 rw[if_neg h2];have hr:((y7 r).length:Int)<=M0 x.n-s.m.b:=by omega
 have hb:=h.b;have hn:=h.n;have hrd:M0 x.n=(x.n-2)*64:=rfl;have hel:=VD s.l;have hal:(I5 s.l++y7 r).length=(I5 s.l).length+(y7 r).length:=lla;have hle:(I5 s.l).length=s.l.length%64:=by
  unfold I5;rw[List.length_drop];omega
 have hE0:=h.fit.mr.e;have hB:=En h hr;have hE:(F5 s r).e=s.m.e+1:=rfl;have k1:DvOk (Y9 x s r).1:=Du h.dv;have k2:DvOk (aL x s r).1:=NI k1;have k3:DvOk (aK x s r).1:=yE k2;have k4:DvOk (bM x s r).1:=NI k3;rcases Dq (f:=(I5 s.l++y7 r).length) (x:=x) (a:=2+s.m.b / 64) (s:=I5 s.l++y7 r) (Nat.le_refl _) h.on om om with⟨y,hp,hon,hes,hyn,har,hws⟩|⟨y,p,hp,har,hon,hes,hyn,hws,hmem⟩
 rotate_left
 ·have e1:Y9 x s r=(y,14):=hp;rw[e1] at k1;rw[e1,if_pos (show ((14:Int))≠0 by decide)];rw[h.ws,List.nil_append] at hws;exact .lost y hyn har (El h k1 hes (fun w hw=>hmem w (hws ▸ hw)))
 have e1:Y9 x s r=(y,0):=hp;rw[h.ws,List.nil_append] at hws;rw[e1] at k1;rw[e1,if_neg (show ¬ (((0:Int))≠0) by decide)];have e2:aL x s r=R5 y:=by unfold aL;rw[e1]
 have hfl:R5 y=if bL y=false then (dF y,14) else (U9 (I9 y),0):=by
  unfold R5;rw[if_neg (by rw[hon];decide)]
 cases hm:bL y with
 | false=>
  rw[hm,if_pos rfl] at hfl;rw[e2,hfl,if_pos (show ((14:Int))≠0 by decide)];exact .lost _ hyn (by rw[<- har];exact NH hm) (El h (VG k1) hes (fun w hw=>hws ▸ hw))
 | true=>
  rw[hm,if_neg dc] at hfl;have k1':=GZ k1 hm;have hz:DFits (D9 (U9 (I9 y))) (s.l++y7 r) s.m:=a4M h k1'.mn hes hws k1';rw[e2,hfl] at k2;rw[e2,hfl,if_neg (show ¬ (((0:Int))≠0) by decide)];generalize hZ:U9 (I9 y)=z at *;have hzn:z.n=x.n:=by rw[<- hZ];exact(uL (ws:=(I9 y).ws) (x:=I9 y)).1.trans hyn
  have hzo:z.on=true:=by rw[<- hZ];exact(uL (ws:=(I9 y).ws) (x:=I9 y)).2.1.trans hon
  have hza:z.ar=x.ar:=by rw[<- hZ];exact(uL (ws:=(I9 y).ws) (x:=I9 y)).2.2.1.trans har
  have hzw:z.ws=[]:=by rw[<- hZ];rfl
  have e3:aK x s r=K4 z ((F5 s r).e%2) (J9 (F5 s r)):=by unfold aK;rw[e2,hfl]
  have hwr:=Kw (x:=z) (a:=(F5 s r).e%2) (s:=J9 (F5 s r)) hzo ⟨om,om⟩ (FN _);cases hm2:bL z with
  | false=>
   rw[hm2,if_pos rfl] at hwr;rw[e3,hwr] at k3;rw[e3,hwr,if_pos (show ((14:Int))≠0 by decide)];refine .lost _ hzn (by rw[<- hza];exact NH hm2) (Ej h hr hz k3 rfl ?_);intro w hw;have hw':w∈z.ws++[((F5 s r).e%2,J9 (F5 s r))]:=hw;rw[hzw] at hw';simpa using hw'
  | true=>
   rw[hm2,if_neg dc] at hwr;rw[e3,hwr] at k3;rw[e3,hwr,if_neg (show ¬ (((0:Int))≠0) by decide)];generalize hU:bK (I9 z) ((F5 s r).e%2,J9 (F5 s r))=u at *;have hun:u.n=x.n:=by rw[<- hU];exact hzn
   have huo:u.on=true:=by rw[<- hU];exact hzo
   have hua:u.ar=x.ar:=by rw[<- hU];exact hza
   have huw:u.ws=[((F5 s r).e%2,J9 (F5 s r))]:=by rw[<- hU];show z.ws++_=_;rw[hzw];rfl
   have hus:D9 u=D9 z:=by rw[<- hU];rfl
   have e4:bM x s r=R5 u:=by unfold bM;rw[e3,hwr]
   have hfl2:R5 u=if bL u=false then (dF u,14) else (U9 (I9 u),0):=by
    unfold R5;rw[if_neg (by rw[huo];decide)]
   cases hm3:bL u with
   | false=>
    rw[hm3,if_pos rfl] at hfl2;rw[e4,hfl2] at k4;rw[e4,hfl2,if_pos (show ((14:Int))≠0 by decide)];refine .lost _ hun (by rw[<- hua];exact NH hm3) (Ej h hr hz k4 hus ?_);intro w hw;have hw':w∈u.ws:=hw;rw[huw] at hw';simpa using hw'
   | true=>
    rw[hm3,if_neg dc] at hfl2;have k3':=GZ k3 hm3;rw[e4,hfl2] at k4;rw[e4,hfl2,if_neg (show ¬ (((0:Int))≠0) by decide)];have hsf:D9 (U9 (I9 u))=aD (D9 z) ((F5 s r).e%2) (J9 (F5 s r)):=by
     funext b
     rw[Ld k3'.mn b];unfold Z8;have hw:(I9 u).ws=[((F5 s r).e%2,J9 (F5 s r))]:=huw;have hss:D9 (I9 u)=D9 z:=hus;rw[hw,hss,PL];unfold aD;by_cases hbe:b=(F5 s r).e%2
     ·rw[if_pos hbe,hbe];simp[bH]
     ·rw[if_neg hbe];have:¬ (F5 s r).e%2=b:=fun e=>hbe e.symm;simp[bH,this]
    have hmk:MkI (aD (D9 z) ((F5 s r).e%2) (J9 (F5 s r))) (F5 s r):=by
     have:=h.e;refine⟨om,hB,by unfold aD;rw[if_pos rfl],s.m.e.toNat,?_,om,.inl om⟩;unfold aD;rw[if_neg om,show ((F5 s r).e+1)%2=s.m.e%2 by omega,hz.mr.at_];exact(FM s.m).2.2.2
    have hfit:DFits (D9 (U9 (I9 u))) (s.l++y7 r) (F5 s r):=⟨vZ k4,by rw[hsf];exact YI om hz.lg,by rw[hsf];exact hmk⟩;have hyn4:(U9 (I9 u)).n=x.n:=(uL (ws:=(I9 u).ws) (x:=I9 u)).1.trans hun;have hon4:(U9 (I9 u)).on=true:=(uL (ws:=(I9 u).ws) (x:=I9 u)).2.1.trans huo;have har4:(U9 (I9 u)).ar=x.ar:=(uL (ws:=(I9 u).ws) (x:=I9 u)).2.2.1.trans hua;refine .yes _ hyn4 har4 om ?_ ⟨hfit,k4,hon4,rfl,om⟩;by_cases hbig:190<=(F5 s r).e\/1000<(F5 s r).c
    ·exact .inr hbig
    ·have hbn:(F5 s r).b=s.m.b+(y7 r).length:=rfl;refine .inl ⟨k4,hon4,rfl,hfit,?_,?_,?_,rfl,?_,?_⟩
     ·show s.m.b+((y7 r).length:Int)=((s.l++y7 r).length:Int);rw[lla];omega
     ·show s.m.b+((y7 r).length:Int)<=M0 (U9 (I9 u)).n;rw[hyn4];omega
     ·rw[hyn4];exact hn
     ·show (F5 s r).e<190;omega
     ·show 0<=(F5 s r).c/\(F5 s r).c<=1000;have:=hB.c;omega
end Go.Proofs.YtocpacdnjbjjmaaGreatDoor

namespace Go.Proofs.YtocpacdnjbjjmaaGreatDoor
open Go Go.RowKit Tw Av Go.Proofs.Tryz
theorem VW {xs:List AV}{id:Option Value}(hx:xs.length<=1073741824):Av.Spec prog GL 48 [.sl 2 xs id] [] (OwnK 120 2 xs):=by
 refine qE func48 rfl ntmps48 rfl (fun _ hs=>?_);repeat' first|refine Wz ?_|intro _
 refine Qa (fun q c hq hc=>?_);repeat' first|refine Wz ?_|intro _
 injection hc with hc
 subst hc;refine qG (fun h=>?_) (fun h=>?_)
 ·repeat' first|refine Wz ?_|intro _
  exact o5 [] (.inl ⟨hq h,rfl,rfl⟩) (List.nil_sublist _)
 ·repeat' first|refine Wz ?_|intro _
  refine Qv (fun g=>?_);repeat' first|refine Wz ?_|intro _
  refine OU (fun g' c' hc'=>?_);repeat' first|refine Wz ?_|intro _
  refine o5 [.buf g' 120 2 ([]++xs) c'] (.inr ⟨g',c',?_,rfl,?_⟩) slr
  ·simp[I8]
  ·simpa using hc'
theorem a2Z {α:Type}(xs:List α)(i:Nat)(x:α)(h:i<=xs.length):over (over xs (i+1) ((xs.drop i).take (xs.length-i))) i [x]=xs.take i++x::xs.drop i:=by
 obtain⟨a,b,rfl,rfl⟩:∃ a b,xs=a++b/\a.length=i:=⟨xs.take i,xs.drop i,(List.take_append_drop _ _).symm,by simp;omega⟩;rw[List.drop_left,List.take_left,show (a++b).length-a.length=b.length by simp,List.take_length];cases b with
 | nil=>simp[over]
 | cons y b=>
  have e1:over (a++y::b) (a.length+1) (y::b)=a++y::y::b:=by
   unfold over;rw[List.drop_of_length_le sm,show a++y::b=(a++[y])++b by simp,show a.length+1=(a++[y]).length by simp,List.take_left];simp
  rw[e1];unfold over;rw[List.take_left,show a++y::y::b=(a++[y])++(y::b) by simp,show a.length+[x].length=(a++[y]).length by simp,List.drop_left];simp
theorem a2W {α:Type}(xs:List α)(i q:Nat)(x z:α)(h:i<=xs.length)(hq:i+q=xs.length+1):over (over (xs.take i++List.replicate q z) i [x]) (i+1) ((xs.drop i).take (q-1))=xs.take i++x::xs.drop i:=by
 obtain⟨a,b,rfl,rfl⟩:∃ a b,xs=a++b/\a.length=i:=⟨xs.take i,xs.drop i,(List.take_append_drop _ _).symm,by simp;omega⟩;simp only[List.length_append] at hq;obtain rfl:q=b.length+1:=by omega
 rw[List.drop_left,List.take_left,show b.length+1-1=b.length by omega,List.take_length];have e1:over (a++List.replicate (b.length+1) z) a.length [x]=a++x::List.replicate b.length z:=by
  unfold over;rw[List.take_left,List.replicate_succ,show a++z::List.replicate b.length z=(a++[z])++List.replicate b.length z by simp,show a.length+[x].length=(a++[z]).length by simp,List.drop_left];simp
 rw[e1];unfold over;rw[show a++x::List.replicate b.length z=(a++[x])++List.replicate b.length z by simp,show a.length+1=(a++[x]).length by simp,List.take_left,List.drop_of_length_le (by simp;omega)];simp
theorem Ei {α:Type}(x:α)(p:Nat)(h:1<=p):([x].drop 0).take p=[x]:=List.take_of_length_le (by simpa using h)
theorem a2Y {α:Type}{xs:List α}{i:Nat}{x:α}{p q:Nat}(h:i<=xs.length)(hp:p=xs.length-i)(hq:1<=q):over (over xs (i+1) ((xs.drop i).take p)) i (([x].drop 0).take q)=xs.take i++x::xs.drop i:=by
 rw[Ei x q hq,hp];exact a2Z xs i x h
theorem a2V {α:Type}{xs:List α}{i q:Nat}{x z:α}{p r:Nat}(h:i<=xs.length)(hq:i+q=xs.length+1)(hp:p=q-1)(hr:1<=r):over (over (xs.take i++List.replicate q z) i (([x].drop 0).take r)) (i+1) ((xs.drop i).take p)=xs.take i++x::xs.drop i:=by
 rw[Ei x r hr,hp];exact a2W xs i q x z h hq
theorem a2T {gv:Nat}{x:AV}:Av.Spec prog GL 125 [P9,int 0,.lit (.slice (some ⟨gv,0,none⟩) 1 1)] [.buf gv 120 2 [x] 1] (OwnK 120 2 [x]):=by
 refine qE func125 rfl ntmps125 rfl (fun _ hs=>?_);repeat' first|refine Wz ?_|intro _
 refine OG 0 0 ?_;repeat' first|refine Wz ?_|intro _
 refine wO 24 ?_;refine Qz (fun g' c' hc'=>?_);repeat' first|refine Wz ?_|intro _
 exact o5 [.buf g' 120 2 [x] c'] (.inr ⟨g',c',rfl,rfl,hc'⟩) sm
theorem a2S {g gv n c i:Nat}{xs:List AV}{x:AV}(hn:xs.length=n)(hc:n<=c)(hi:i<=n)(hb:n<=1073741824):Av.Spec prog GL 125 [.lit (.slice (some ⟨g,0,none⟩) n c),int i,.lit (.slice (some ⟨gv,0,none⟩) 1 1)] [.buf g 120 2 xs c,.buf gv 120 2 [x] 1] (OwnK 120 2 (xs.take i++x::xs.drop i)):=by
 subst hn;refine qE func125 rfl ntmps125 rfl (fun _ hs=>?_);repeat' first|refine Wz ?_|intro _
 refine OG i xs.length ?_;repeat' first|refine Wz ?_|intro _
 refine o9 (fun hin=>?_) (fun hin=>?_)
 ·repeat' first|refine Wz ?_|intro _
  refine wO 24 ?_;refine OU (fun g' c' hc'=>?_);repeat' first|refine Wz ?_|intro _
  have hin':i=xs.length:=om
  subst hin';refine o5 [.buf g' 120 2 (xs++[x]) c'] (.inr ⟨g',c',?_,?_,?_⟩) sm
  ·simp[I8]
  ·simp
  ·simpa using hc'
 ·repeat' first|refine Wz ?_|intro _
  have hl:(xs.take i++x::xs.drop i).length=xs.length+1:=by simp;omega
  refine o9 (fun hcap=>?_) (fun hcap=>?_)
  ·obtain⟨q,hq⟩:∃ q,i+q=xs.length+1:=⟨xs.length+1-i,om⟩;repeat' first|refine Wz ?_|intro _
   refine nK 0 i ?_;repeat' first|refine Wz ?_|intro _
   refine a8G (i:=i) q (fun g' c' hc'=>?_);repeat' first|refine Wz ?_|intro _
   refine nK i (i+q) ?_;repeat' first|refine Wz ?_|intro _
   refine OQ (j:=i) (j2:=0) ?_;repeat' first|refine Wz ?_|intro _
   apply u7 [];exact rfl;exact rfl;kernel_rfl;intro _ _;refine nK (i+1) (i+q) ?_;exact j4 (o7 rfl rfl);repeat' first|refine Wz ?_|intro _
   apply u7 [];exact rfl;exact rfl;kernel_rfl;intro _ _;refine nK i xs.length ?_;exact j4 (o7 rfl rfl);apply jE [0,1];exact rfl;exact rfl;kernel_rfl;intro _ _;refine OQ (j:=i+1) (j2:=i) ?_;exact j4 (o7 rfl rfl);exact rfl;exact rfl;repeat' first|refine Wz ?_|intro _
   rw[a2V om hq om om];refine o5 [.buf g' 120 2 _ c'] (.inr ⟨g',c',?_,rfl,?_⟩) (List.singleton_sublist.2 List.mem_cons_self)
   ·rw[hl,<- hq];rfl
   ·omega
  ·repeat' first|refine Wz ?_|intro _
   refine nK 0 (xs.length+1) ?_;repeat' first|refine Wz ?_|intro _
   refine nK (i+1) (xs.length+1) ?_;apply yX (v:=j3 false) func173;kernel_rfl;exact rfl;kernel_rfl;kernel_rfl;exact rfl;exact rfl;exact rfl
   ·intro ok w cs hS hv;exact⟨_,a1i (b:=32) (tS:=30) 4 hS (fun h=>a6I (pre:=[]) (mid:=[]) hS h.symm) (List.mem_cons_of_mem _ List.mem_cons_self) List.mem_cons_self om hv,RVl rfl⟩
   repeat' first|refine Wz ?_|intro _
   apply u7 [];exact rfl;exact rfl;kernel_rfl;intro _ _;refine nK (i+1) (xs.length+1) ?_;exact j4 (o7 rfl rfl);repeat' first|refine Wz ?_|intro _
   apply u7 [];exact rfl;exact rfl;kernel_rfl;intro _ _;refine nK i (xs.length+1) ?_;exact j4 (o7 rfl rfl);apply jE [0];exact rfl;exact rfl;kernel_rfl;intro _ _;refine OQ (j:=i+1) (j2:=i) ?_;exact j4 (o7 rfl rfl);exact rfl;exact rfl;repeat' first|refine Wz ?_|intro _
   refine nK i (xs.length+1) ?_;repeat' first|refine Wz ?_|intro _
   refine OQ (j:=i) (j2:=0) ?_;repeat' first|refine Wz ?_|intro _
   rw[a2Y om om om];refine o5 [.buf g 120 2 _ c] (.inr ⟨g,c,?_,rfl,?_⟩) sm
   ·rw[hl];rfl
   ·omega

theorem Lu {α:Type}{xs:List α}{i n j:Nat}{w z:List α}(hn:xs.length=n+1)(hi:i<=n)(hj:j=n)(hw:w=xs.drop (i+1))(_:z.length=1):(over (over xs i w) j z).take n=xs.take i++xs.drop (i+1):=by
 subst hj hw;obtain⟨a,b,rfl,rfl⟩:∃ a b,xs=a++b/\a.length=i:=⟨xs.take i,xs.drop i,(List.take_append_drop _ _).symm,by simp;omega⟩;cases b with
 | nil=>simp at hn;omega
 | cons y b=>
  simp only[List.length_append,List.length_cons] at hn;have e0:(a++y::b).drop (a.length+1)=b:=by
   rw[show a++y::b=(a++[y])++b by simp,show a.length+1=(a++[y]).length by simp,List.drop_left]
  rw[e0,List.take_left];have e1:((over (a++y::b) a.length b)).take j=a++b:=by
   unfold over;rw[List.take_left,List.take_left' (by simp;omega)]
  have e2:over (over (a++y::b) a.length b) j z=(a++b)++z++(over (a++y::b) a.length b).drop (j+z.length):=by
   rw[<- e1];rfl
  rw[e2,List.append_assoc,List.take_left' (by simp;omega)]
theorem a5T {g n c i:Nat}{xs:List AV}(hn:xs.length=n+1)(hc:n+1<=c)(hi:i<=n)(hb:n<=1073741824):Av.Spec prog GL 429 [.lit (.slice (some ⟨g,0,none⟩) (n+1) c),int i,int (i+1:Nat)] [.buf g 120 2 xs c] (OwnK 120 2 (xs.take i++xs.drop (i+1))):=by
 have hl:(xs.take i++xs.drop (i+1)).length=n:=by simp;omega
 have hend:∀ {xs':List AV},xs'=xs.take i++xs.drop (i+1)->OwnK 120 2 (xs.take i++xs.drop (i+1)) (.lit (.slice (some ⟨g,0,none⟩) n c)) [.buf g 120 2 xs' c]:=fun h=>.inr ⟨g,c,by rw[hl],by rw[h],om⟩;refine qE func429 rfl ntmps429 rfl (fun _ hs=>?_);repeat' first|refine Wz ?_|intro _
 refine a7s i (i+1) (n+1) ?_;repeat' first|refine Wz ?_|intro _
 refine o9 (fun h=>?_) (fun _=>?_)
 ·omega
 repeat' first|refine Wz ?_|intro _
 apply u7 [];exact rfl;exact rfl;kernel_rfl;intro _ _;refine nK 0 i ?_;exact j4 (o7 rfl rfl);repeat' first|refine Wz ?_|intro _
 by_cases hcc:c=i+1
 ·have hin:i=n:=om
  subst hin hcc;apply u7 [];exact rfl;exact rfl;kernel_rfl;intro _ _;refine OG (i+1) (i+1) ?_;rw[if_pos rfl];exact j4 (o7 rfl rfl);apply jE [0];exact rfl;exact rfl;kernel_rfl;intro _ _;refine Qy (i:=i) (c:=i+1) (j2:=0) ?_;exact j4 (o7 rfl rfl);exact rfl;exact rfl;repeat' first|refine Wz ?_|intro _
  refine nK i (i+1) ?_;refine Qp (j:=i) ?_;refine Pv i ?_;repeat' first|refine Wz ?_|intro _
  refine o5 [.buf g 120 2 _ (i+1)] ?_ slr;simp only[I8];rw[show i+(i+1-(i+1))=i by omega];exact hend (Lu hn hi rfl (by rw[show i+1-(i+1)=0 by omega,List.drop_of_length_le (i:=i+1) om,List.take_zero]) sm)
 ·apply u7 [];exact rfl;exact rfl;kernel_rfl;intro _ _;refine nK (i+1) (n+1) ?_;exact j4 (o7 rfl rfl);apply jE [0];exact rfl;exact rfl;kernel_rfl;intro _ _;refine Qy (i:=i) (c:=c) (j2:=i+1) ?_;exact j4 (o7 rfl rfl);exact rfl;exact rfl;repeat' first|refine Wz ?_|intro _
  refine nK n (n+1) ?_;refine Qp (j:=n) ?_;refine Pv n ?_;repeat' first|refine Wz ?_|intro _
  refine o5 [.buf g 120 2 _ c] ?_ slr;simp only[I8];rw[show i+(n+1-(i+1))=n by omega];exact hend (Lu hn hi rfl (List.take_of_length_le (by simp;omega)) sm)
theorem a5U {g c i:Nat}{xs:List AV}(hi:i<xs.length)(hc:xs.length<=c)(hb:xs.length<=1073741824):Av.Spec prog GL 429 [.lit (.slice (some ⟨g,0,none⟩) xs.length c),int i,int (i+1:Int)] [.buf g 120 2 xs c] (OwnK 120 2 (xs.take i++xs.drop (i+1))):=by
 obtain⟨n,hn⟩:∃ n,xs.length=n+1:=⟨xs.length-1,om⟩;rw[hn] at hc hi hb ⊢;exact a5T hn hc om om

def oV (a b:Bs):Int:=Extern.BytealgCompare.cmp ⟨a.toArray⟩ ⟨b.toArray⟩
theorem Zg (a b:Bs)(w:World):(Extern.BytealgCompare.compare #[sv a,sv b]).run prog w=.ok (.int .i64 (oV a b)) w:=by
 rfl
instance b8i {a b:Bs}:Ans prog GL 240 [str a,str b] True (int (oV a b)):=⟨fun _=>by
 refine qE func240 rfl ntmps240 rfl (fun _ hs=>?_);repeat' first|refine Wz ?_|intro _
 apply yX (v:=int (oV a b)) func294;kernel_rfl;exact rfl;kernel_rfl;kernel_rfl;exact rfl;exact rfl;exact rfl
 ·rintro ok w cs _ ⟨u1,us,rfl,h1,u2,us2,rfl,h2,rfl⟩;rw[RV0.lit h1,RV0.lit h2];exact⟨_,Zg a b _,RVl rfl⟩
 repeat' first|refine Wz ?_|intro _
 refine d9 ?_;rfl⟩
instance b8b {a b:Bs}:Ans prog GL 172 [str a,str b] True (int (oV a b)):=⟨fun _=>by
 refine qE func172 rfl ntmps172 rfl (fun _ hs=>?_);repeat' first|refine Wz ?_|intro _
 refine d9 ?_;rfl⟩
instance b7Q {x y k:Bs}:Ans prog GL 171 [.agg 2 [str x,str y],str k] True (int (oV x k)):=⟨fun _=>by
 refine qE func171 rfl ntmps171 rfl (fun _ hs=>?_);repeat' first|refine Wz ?_|intro _
 refine d9 ?_;rfl⟩
def rP (l:List Ent)(k:Bs):Nat->Nat->Nat->Nat
 | 0,i,_=>i
 | f+1,i,j=>if i<j then
   (let h:=(i+j) / 2
   if oV ((l.getD h ⟨[],[]⟩).key) k<0 then rP l k f (h+1) j else rP l k f i h)
  else i
def F6 (l:List Ent)(k:Bs):Nat:=rP l k l.length 0 l.length
def Q0 (l:List Ent)(k:Bs):Bool:=decide (F6 l k<l.length)&&decide (oV ((l.getD (F6 l k) ⟨[],[]⟩).key) k=0)
instance b8D {l:List Ent}{k:Bs}{xs:List AV}{id:Option Value}[hx:Ents xs l]:Ans prog GL 170 [.sl 2 xs id,str k,D6 171 []] (l.length<4611686018427387904) (.tup [int (F6 l k),j3 (Q0 l k)]):=⟨fun hmx=>by
 have h:=hx.out;subst h;refine qE func170 rfl ntmps170 rfl (fun _ hs=>?_);repeat' first|refine Wz ?_|intro _
 refine z8 (α:=Nat × Nat × Nat) (fun q=>[(0,.sl 2 (l.map C8) id),(1,str k),(2,D6 171 []),(8,int (l.map C8).length),(9,int q.1),(10,int q.2.1)]) (fun _=>[])
  (fun q=>q.1<=q.2.1/\q.2.1<=l.length/\q.2.1-q.1<=q.2.2/\rP l k q.2.2 q.1 q.2.1=F6 l k) (fun q=>q.2.2) (0,(l.map C8).length,l.length) ⟨rfl,rfl,rfl,rfl,rfl,rfl,trivial⟩ slr ⟨Nat.zero_le _,sm,sm,by simp[F6]⟩ ?_
 rintro⟨i,j,f⟩ ⟨g1,g2,g3,g4⟩;dsimp only at g1 g2 g3 g4 ⊢;repeat' first|refine Wz ?_|intro _
 refine o9 (fun hlt=>?_) (fun hlt=>?_)
 ·repeat' first|refine Wz ?_|intro _
  have hw:IntKind.i64.wrap (((i:Int)+(j:Int)) / ((2 ^ 1:Nat):Int))=(((i+j) / 2:Nat):Int):=by rw[IntKind.wrap_i64];omega
  rw[hw];obtain⟨f,rfl⟩:∃ f',f=f'+1:=⟨f-1,om⟩;rw[rP,if_pos om] at g4;generalize hh:(i+j) / 2=h at *;have hlt':h<l.length:=by omega
  have hgd:l.getD h ⟨[],[]⟩=l[h]:=by simp[List.getD,hlt']
  simp only[hgd] at g4;refine Z0 h hlt' ?_;repeat' first|refine Wz ?_|intro _
  refine o9 (fun hc=>?_) (fun hc=>?_)
  ·rw[if_pos hc] at g4;repeat' first|refine Wz ?_|intro _
   refine o6 (h+1,j,f) ⟨rfl,rfl,rfl,rfl,rfl,rfl,trivial⟩ slr ⟨by simp only;omega,g2,by simp only;omega,g4⟩ (by simp only;omega)
  ·rw[if_neg hc] at g4;repeat' first|refine Wz ?_|intro _
   refine o6 (i,h,f) ⟨rfl,rfl,rfl,rfl,rfl,rfl,trivial⟩ slr ⟨by simp only;omega,by simp only;omega,by simp only;omega,g4⟩ (by simp only;omega)
 ·have g5:F6 l k=i:=by
   rw[<- g4];cases f with
   | zero=>rfl
   | succ f=>rw[rP,if_neg om]
  repeat' first|refine Wz ?_|intro _
  refine Y5 (fun hn=>?_) (fun hn=>?_)
  ·have hlt':i<l.length:=by simpa using hn
   repeat' first|refine Wz ?_|intro _
   refine Z0 i hlt' ?_;repeat' first|refine Wz ?_|intro _
   refine d9 ?_;have hgd:l.getD i ⟨[],[]⟩=l[i]:=by simp[List.getD,hlt']
   simp[Q0,g5,hlt',I8]
  ·have hlt':¬ i<l.length:=by simpa using hn
   repeat' first|refine Wz ?_|intro _
   refine d9 ?_;simp[Q0,g5,hlt',I8]⟩
instance b7R {l:List Ent}{k:Bs}{xs:List AV}{id:Option Value}[hx:Ents xs l]:Ans prog GL 124 [.agg 1 [.sl 2 xs id],str k] (l.length<4611686018427387904) (.tup [int (F6 l k),j3 (Q0 l k)]):=⟨fun hl=>by
 have h:=hx.out;subst h;refine qE func124 rfl ntmps124 rfl (fun _ hs=>?_);repeat' first|refine Wz ?_|intro _
 refine d9 ?_;rfl⟩

abbrev dA (l:List Ent):AV:=.agg 1 [.sl 2 (l.map C8) none]
def K7 (l:List Ent)(k v:Bs):Int:=if 400<k.length\/4000<v.length then 11 else if Q0 l k=true then 0 else if 2000<=l.length then 15 else 0
def gD (l:List Ent)(k v:Bs):List Ent:=if Q0 l k=true then l.set (F6 l k) ⟨(l.getD (F6 l k) ⟨[],[]⟩).key,v⟩ else l.take (F6 l k)++⟨k,v⟩::l.drop (F6 l k)
def pI (l:List Ent)(k v:Bs):AV:=if K7 l k v=0 then dA (gD l k v) else .agg 1 [P9]
theorem WK (l:List Ent)(k:Bs):∀ f i j,i<=j->rP l k f i j<=j
 | 0,i,j,h=>h
 | f+1,i,j,h=>by
  unfold rP;split
  ·dsimp only;split
   ·exact WK l k f _ _ om
   ·exact Nat.le_trans (WK l k f _ _ om) om
  ·exact h
theorem NU (l:List Ent)(k:Bs):F6 l k<=l.length:=WK l k _ _ _ (Nat.zero_le _)
theorem WJ {l:List Ent}{k:Bs}(h:Q0 l k=true):F6 l k<l.length:=by
 unfold Q0 at h;simp at h;exact h.1
instance a4x {l:List Ent}{k v:Bs}{xs:List AV}{id:Option Value}[hx:Ents xs l]:Ans prog GL 70 [.agg 1 [.sl 2 xs id],str k,str v] (l.length<=1073741823) (.tup [pI l k v,int (K7 l k v)]):=⟨fun hl=>by
 have h:=hx.out;subst h;have hat:=NU l k;refine qE func70 rfl ntmps70 rfl (fun _ hs=>?_);repeat' first|refine Wz ?_|intro _
 refine Y5 (fun h1=>?_) (fun h1=>?_)
 ·repeat' first|refine Wz ?_|intro _
  refine d9 ?_;have hh:400<k.length:=by omega
  have:K7 l k v=11:=by simp[K7,hh]
  simp[I8,pI,this]
 ·repeat' first|refine Wz ?_|intro _
  refine o9 (fun h2=>?_) (fun h2=>?_)
  ·repeat' first|refine Wz ?_|intro _
   refine d9 ?_;have hh:4000<v.length:=by omega
   have:K7 l k v=11:=by simp[K7,hh]
   simp[I8,pI,this]
  ·repeat' first|refine Wz ?_|intro _
   have hne:¬ (400<k.length\/4000<v.length):=om
   refine M3 [] _ (by rw[hs];exact VW (xs:=l.map C8) (id:=id) (by rw[llm];omega)) (fun c m1 hh=>?_) lpr;rcases hh with⟨hnil,rfl,rfl⟩|⟨g,cap,rfl,rfl,hcap⟩
   ·obtain rfl:l=[]:=by simpa using hnil
    repeat' (first|refine iN ?_|refine V7 ?_|refine AZ ?_|refine HV hs ?_|refine G5 (fun _=>?_)|intro _)
    refine Qu (fun gv=>?_);refine M3 [.buf gv 120 2 [C8 ⟨k,v⟩] 1] _ (by rw[hs];exact a2T) (fun c m1 hh=>?_) lpr;rcases hh with⟨hnil,rfl,rfl⟩|⟨g,cap,rfl,rfl,hcap⟩
    ·simp at hnil
    ·refine wO 35 ?_;refine nL 35 Imp.sl ?_;repeat' first|refine Wz ?_|intro _
     refine d9 ?_;have e0:Q0 [] k=false:=rfl;have e1:K7 [] k v=0:=by simp[K7,hne,e0]
     have e2:[C8 ⟨k,v⟩]=(gD [] k v).map C8:=by simp[gD,e0]
     simp only[I8,pI,e1,if_true,e2]
   ·repeat' (first|refine iN ?_|refine V7 ?_|refine AZ ?_|refine HV hs ?_|refine G5 (fun _=>?_)|intro _)
    refine qG (fun h3=>?_) (fun h3=>?_)
    ·repeat' first|refine Wz ?_|intro _
     have hlt:=WJ h3;have hgd:l.getD (F6 l k) ⟨[],[]⟩=l[F6 l k]:=by simp[List.getD,hlt]
     refine CQ (F6 l k) ?_;repeat' first|refine Wz ?_|intro _
     refine OE (y:=C8 l[F6 l k]) (y':=C8 ⟨l[F6 l k].key,v⟩) ?_ ?_
     ·simp[hlt]
     refine wO 10 ?_;refine nL 10 Imp.sl ?_;repeat' first|refine Wz ?_|intro _
     refine d9 ?_;have e1:K7 l k v=0:=by simp[K7,hne,h3]
     have e2:(l.map C8).set (F6 l k) (C8 ⟨l[F6 l k].key,v⟩)=(gD l k v).map C8:=by rw[gD,if_pos h3,hgd,List.map_set]
     simp only[I8,pI,e1,if_true,e2]
    ·repeat' (first|refine iN ?_|refine V7 ?_|refine AZ ?_|refine HV hs ?_|refine G5 (fun _=>?_)|intro _)
     refine o9 (fun h4=>?_) (fun h4=>?_)
     ·repeat' first|refine Wz ?_|intro _
      refine d9 ?_;have e1:K7 l k v=15:=by
       have:2000<=l.length:=by simp at h4;omega
       simp[K7,hne,h3,this]
      simp[I8,pI,e1]
     ·repeat' (first|refine iN ?_|refine V7 ?_|refine AZ ?_|refine HV hs ?_|refine G5 (fun _=>?_)|intro _)
      refine Qu (fun gv=>?_);refine M3 [.buf g 120 2 (l.map C8) cap,.buf gv 120 2 [C8 ⟨k,v⟩] 1] _ (by rw[hs];exact a2S rfl hcap (by simpa using hat) (by rw[List.length_map];omega)) (fun c m1 hh=>?_) (List.Perm.swap _ _ _);rcases hh with⟨hnil,rfl,rfl⟩|⟨g,cap,rfl,rfl,hcap⟩
      ·simp at hnil
      ·refine wO 35 ?_;refine nL 35 Imp.sl ?_;repeat' first|refine Wz ?_|intro _
       refine d9 ?_;have e1:K7 l k v=0:=by
        have:¬ 2000<=l.length:=by simp at h4;omega
        simp[K7,hne,h3,this]
       have e2:(l.map C8).take (F6 l k)++C8 ⟨k,v⟩::(l.map C8).drop (F6 l k)=(gD l k v).map C8:=by simp[gD,h3,List.map_take,List.map_drop]
       simp only[I8,pI,e1,if_true,e2]⟩
instance a4z {l:List Ent}{k:Bs}{xs:List AV}{id:Option Value}[hx:Ents xs l]:Ans prog GL 326 [.agg 1 [.sl 2 xs id],str k] (l.length<=1073741823) (.tup [str (if Q0 l k=true then (l.getD (F6 l k) ⟨[],[]⟩).val else []),j3 (Q0 l k)]):=⟨fun hl=>by
 have h:=hx.out;subst h;have hat:=NU l k;refine qE func326 rfl ntmps326 rfl (fun _ hs=>?_);repeat' first|refine Wz ?_|intro _
 refine qG (fun h3=>?_) (fun h3=>?_)
 ·repeat' first|refine Wz ?_|intro _
  refine d9 ?_;have h4:Q0 l k=false:=by simpa using h3
  simp[I8,h4]
 ·have h3:Q0 l k=true:=by simpa using h3
  repeat' first|refine Wz ?_|intro _
  have hlt:=WJ h3;have hgd:l.getD (F6 l k) ⟨[],[]⟩=l[F6 l k]:=by simp[List.getD,hlt]
  refine Z0 (F6 l k) hlt ?_;repeat' first|refine Wz ?_|intro _
  refine d9 ?_;simp only[I8,h3,if_true,hgd]⟩
instance a4E {l:List Ent}{k:Bs}{xs:List AV}[hx:Ents xs l]:Ans prog GL 393 [.agg 1 [.sl 2 xs none],str k] (l.length<=1073741823) (.tup [dA (if Q0 l k=true then l.take (F6 l k)++l.drop (F6 l k+1) else l),j3 (Q0 l k)]):=⟨fun hl=>by
 have h:=hx.out;subst h;have hat:=NU l k;refine qE func393 rfl ntmps393 rfl (fun _ hs=>?_);repeat' first|refine Wz ?_|intro _
 refine qG (fun h3=>?_) (fun h3=>?_)
 ·repeat' first|refine Wz ?_|intro _
  refine d9 ?_;have h4:Q0 l k=false:=by simpa using h3
  simp[I8,h4]
 ·have h3:Q0 l k=true:=by simpa using h3
  repeat' first|refine Wz ?_|intro _
  have hlt:=WJ h3;refine M3 [] _ (by rw[hs];exact VW (xs:=l.map C8) (id:=none) (by rw[llm];omega)) (fun c m1 hh=>?_) lpr;rcases hh with⟨hnil,rfl,rfl⟩|⟨g,cap,rfl,rfl,hcap⟩
  ·have:l=[]:=by simpa using hnil
   simp[this] at hlt
  ·repeat' first|refine Wz ?_|intro _
   refine M3 [.buf g 120 2 (l.map C8) cap] _ (by rw[hs];exact a5U (xs:=l.map C8) (i:=F6 l k) (c:=cap) (by simpa using hlt) hcap (by rw[List.length_map];omega)) (fun c m1 hh=>?_) lpr;have e2:(l.map C8).take (F6 l k)++(l.map C8).drop (F6 l k+1)=(l.take (F6 l k)++l.drop (F6 l k+1)).map C8:=by simp[List.map_take,List.map_drop]
   rw[e2] at hh;rcases hh with⟨hnil,rfl,rfl⟩|⟨g,cap,rfl,rfl,hcap⟩
   ·refine nL 23 (Imp.nilN (k:=2)) ?_;repeat' first|refine Wz ?_|intro _
    refine d9 ?_;simp only[I8,h3,if_true,dA,hnil]
   ·refine wO 23 ?_;refine nL 23 Imp.sl ?_;repeat' first|refine Wz ?_|intro _
    refine d9 ?_;simp only[I8,h3,if_true]⟩
instance b7m {l:List Ent}{xs:List AV}{id:Option Value}[hx:Ents xs l]:Ans prog GL 18 [.agg 1 [.sl 2 xs id]] True (int l.length):=⟨fun _=>by
 have h:=hx.out;subst h;refine qE func18 rfl ntmps18 rfl (fun _ hs=>?_);repeat' first|refine Wz ?_|intro _
 refine d9 ?_;simp[I8]⟩
instance c5r {l:List Ent}{xs:List AV}{id:Option Value}[hx:Ents xs l]:Ans prog GL 20 [.agg 1 [.sl 2 xs id]] (l.length<=1073741823) (.sl 2 (l.map C8) none):=⟨fun hl=>by
 have h:=hx.out;subst h;refine qE func20 rfl ntmps20 rfl (fun _ hs=>?_);repeat' first|refine Wz ?_|intro _
 refine M3 [] _ (by rw[hs];exact VW (xs:=l.map C8) (id:=id) (by rw[llm];omega)) (fun c m1 hh=>?_) lpr;rcases hh with⟨hnil,rfl,rfl⟩|⟨g,cap,rfl,rfl,hcap⟩
 ·obtain rfl:l=[]:=by simpa using hnil
  refine nL 5 (Imp.nilN (k:=2)) ?_;repeat' first|refine Wz ?_|intro _
  refine d9 ?_;rfl
 ·refine wO 5 ?_;refine nL 5 Imp.sl ?_;repeat' first|refine Wz ?_|intro _
  refine d9 ?_;rfl⟩

def aZ (d:List Ent)(x:Ent):List Ent:=if K7 d x.key x.val=0 then gD d x.key x.val else d
def dG (l:List Ent):List Ent:=l.foldl aZ []
theorem Dj {d:List Ent}{x:Ent}(h:d.length<=2000):(aZ d x).length<=2000:=by
 have hat:=NU d x.key;unfold aZ K7 gD;by_cases h1:400<x.key.length\/4000<x.val.length
 ·simpa[h1] using h
 ·by_cases h2:Q0 d x.key=true
  ·simpa[h1,h2] using h
  ·by_cases h3:2000<=d.length
   ·simpa[h1,h2,h3] using h
   ·simp[h1,h2,h3];omega
instance b7W {l:List Ent}{xs:List AV}{id:Option Value}[hx:Ents xs l]:Ans prog GL 32 [.sl 2 xs id] (l.length<=1073741823) (dA (dG l)):=⟨fun hl=>by
 have h:=hx.out;subst h;refine qE func32 rfl ntmps32 rfl (fun _ hs=>?_);repeat' first|refine Wz ?_|intro _
 rename_i g2 g3;refine gM (g:=g3) (v':=dA []) (ImpC.agg1 ImpC.nil) ?_;refine z8 (α:=Nat × List Ent) (fun q=>[(2,ptr g2),(3,ptr g3),(8,.sl 2 (l.map C8) id),(9,int (l.map C8).length),(10,int q.1)]) (fun q=>[.var g3 44 (dA q.2),.var g2 44 (.agg 1 [P9])])
  (fun q=>q.1<=l.length/\q.2.length<=2000/\(l.drop q.1).foldl aZ q.2=dG l) (fun q=>l.length-q.1) (0,[]) ⟨rfl,rfl,rfl,rfl,rfl,trivial⟩ slr ⟨Nat.zero_le _,sm,rfl⟩ ?_
 rintro⟨i,d⟩ ⟨g1,g2',g4⟩;dsimp only at g1 g2' g4 ⊢;repeat' first|refine Wz ?_|intro _
 refine o9 (fun hlt=>?_) (fun hlt=>?_)
 ·have hlt':i<l.length:=by simpa using hlt
  repeat' first|refine Wz ?_|intro _
  refine Z0 i hlt' ?_;repeat' first|refine Wz ?_|intro _
  have hst:(l.drop i).foldl aZ d=(l.drop (i+1)).foldl aZ (aZ d l[i]):=by rw[List.drop_eq_getElem_cons hlt'];rfl
  rw[hst] at g4;by_cases h0:K7 d l[i].key l[i].val=0
  ·have e1:pI d l[i].key l[i].val=dA (aZ d l[i]):=by simp[pI,aZ,h0]
   rw[e1,h0];repeat' first|refine Wz ?_|intro _
   refine o6 (i+1,aZ d l[i]) ⟨rfl,rfl,rfl,rfl,rfl,trivial⟩ ?_ ⟨hlt',Dj g2',g4⟩ (by simp only;omega);exact r9
  ·have e1:pI d l[i].key l[i].val=.agg 1 [P9]:=by simp[pI,h0]
   have e2:aZ d l[i]=d:=by simp[aZ,h0]
   rw[e2] at g4;rw[e1];repeat' first|refine Wz ?_|intro _
   refine o9 (fun h=>absurd h h0) (fun _=>?_);repeat' first|refine Wz ?_|intro _
   refine o6 (i+1,d) ⟨rfl,rfl,rfl,rfl,rfl,trivial⟩ ?_ ⟨hlt',g2',g4⟩ (by simp only;omega);exact r9
 ·repeat' first|refine Wz ?_|intro _
  refine d9 ?_;rw[List.drop_of_length_le (by simpa using hlt)] at g4;simp only[List.foldl_nil] at g4;rw[g4];rfl⟩

instance b7L {n:Int}:Ans prog GL 257 [int n] (0<=n/\n<4611686018427387904) (int ((n+1) / 2)):=⟨fun hn=>by
 refine qE func257 rfl ntmps257 rfl (fun _ hs=>?_);repeat' first|refine Wz ?_|intro _
 refine d9 ?_;rfl⟩
abbrev WayStep:=Bool × Nat × Nat
abbrev JR (t:WayStep):AV:=.agg 3 [j3 t.1,int t.2.1,int t.2.2]
def tQ:Nat->Nat->Nat->List WayStep
 | 0,_,_=>[]
 | f+1,n,i=>if n<=1 then [] else
  (decide (i<(n+1) / 2),(n+1) / 2,n-(n+1) / 2)::(if i<(n+1) / 2 then tQ f ((n+1) / 2) i else tQ f (n-(n+1) / 2) (i-(n+1) / 2))
def turns (n i:Nat):List WayStep:=tQ n n i
theorem JP:∀ (f f' n i:Nat),n<=f->n<=f'->tQ f n i=tQ f' n i
 | 0,0,_,_,_,_=>rfl
 | 0,f'+1,n,i,h,_=>by
  have:n=0:=by omega
  subst this;rfl
 | f+1,0,n,i,_,h=>by
  have:n=0:=by omega
  subst this;rfl
 | f+1,f'+1,n,i,h,h'=>by
  unfold tQ;split
  ·rfl
  ·rw[JP f f' _ i om om,JP f f' _ (i-(n+1) / 2) om om]
theorem JO (n i:Nat)(h:1<n):turns n i=(decide (i<(n+1) / 2),(n+1) / 2,n-(n+1) / 2)::(if i<(n+1) / 2 then turns ((n+1) / 2) i else turns (n-(n+1) / 2) (i-(n+1) / 2)):=by
 obtain⟨f,rfl⟩:∃ f,n=f+1:=⟨n-1,om⟩;unfold turns;rw[tQ,if_neg om,JP f _ _ i om (Nat.le_refl _),JP f _ _ (i-(f+1+1) / 2) om (Nat.le_refl _)]
theorem PX (i:Nat):turns 1 i=[]:=rfl
def dK (n i:Int):List WayStep:=if i<0\/n<=i\/2000<n then [] else turns n.toNat i.toNat
instance b4C {n i:Int}:Ans prog GL 452 [int n,int i] True (.sl 3 ((dK n i).map JR) none):=⟨fun _=>by
 refine qE func452 rfl ntmps452 rfl (fun _ hs=>?_);repeat' first|refine Wz ?_|intro _
 refine Y5 (fun h1=>?_) (fun h1=>?_)
 ·repeat' first|refine Wz ?_|intro _
  refine M6 4 (Imp.nilN (k:=3)) ?_;refine d9 ?_;simp[I8,dK,h1]
 ·repeat' first|refine Wz ?_|intro _
  refine Y5 (fun h2=>?_) (fun h2=>?_)
  ·repeat' first|refine Wz ?_|intro _
   refine M6 4 (Imp.nilN (k:=3)) ?_;refine d9 ?_;simp[I8,dK,h2]
  ·repeat' first|refine Wz ?_|intro _
   refine o9 (fun h3=>?_) (fun h3=>?_)
   ·repeat' first|refine Wz ?_|intro _
    refine M6 4 (Imp.nilN (k:=3)) ?_;refine d9 ?_;simp[I8,dK,h3]
   ·repeat' first|refine Wz ?_|intro _
    obtain⟨N,rfl⟩:∃ N:Nat,n=N:=⟨n.toNat,om⟩;obtain⟨I,rfl⟩:∃ I:Nat,i=I:=⟨i.toNat,om⟩;have hway:dK N I=turns N I:=by simp[dK,h1,h2,h3]
    refine aM 5 (Imp.nil (k:=3)) ?_;refine O5 (fun ok w h=>h.full 440 3 none 0) ?_;refine z8 (α:=Nat × Nat × Value × List WayStep) (fun q=>[(0,int q.1),(1,int q.2.1),(5,.sl 3 (q.2.2.2.map JR) (some q.2.2.1))]) (fun q=>[.tail 440 3 q.2.2.1])
     (fun q=>q.2.1<q.1/\q.2.2.2.length+q.1<=2001/\q.2.2.2++turns q.1 q.2.1=turns N I) (fun q=>q.1) (N,I,.slice none 0 0,[]) ⟨rfl,rfl,rfl,trivial⟩ slr ⟨by simp only;omega,by simp only[List.length_nil];omega,rfl⟩ ?_
    rintro⟨n',i',v,done⟩ ⟨g1,g2,g3⟩;dsimp only at g1 g2 g3 ⊢;repeat' first|refine Wz ?_|intro _
    refine o9 (fun hone=>?_) (fun hone=>?_)
    ·obtain rfl:n'=1:=by omega
     repeat' first|refine Wz ?_|intro _
     refine M6 4 Imp.sl ?_;refine d9 ?_;rw[PX,List.append_nil] at g3;rw[hway,<- g3];rfl
    ·repeat' first|refine Wz ?_|intro _
     have hstep:=JO n' i' om;have hk0:((n':Int)+1) / 2=(((n'+1) / 2:Nat):Int):=by omega
     rw[hk0];generalize hk:(n'+1) / 2=k at *;have hd0:decide ((i':Int)<(k:Int))=decide (i'<k):=by simp
     have hs0:(n':Int)-(k:Int)=((n'-k:Nat):Int):=om
     rw[hd0,hs0];refine I4 (fun v'=>?_);have e1:done.map JR++[.agg 3 [j3 (decide (i'<k)),int k,int (n'-k:Nat)]]=(done++[(decide (i'<k),k,n'-k)]).map JR:=by simp
     rw[e1];have hlen:(done++[(decide (i'<k),k,n'-k)]).length=done.length+1:=by simp
     repeat' first|refine Wz ?_|intro _
     refine qG (fun hc=>?_) (fun hc=>?_)
     ·have hge:¬ i'<k:=by intro h;simp[h] at hc
      repeat' first|refine Wz ?_|intro _
      rw[show (i':Int)-(k:Int)=((i'-k:Nat):Int) by omega];refine o6 (n'-k,i'-k,v',done++[(decide (i'<k),k,n'-k)]) ⟨rfl,rfl,rfl,trivial⟩ ?_ ⟨by simp only;omega,by simp only[hlen];omega,?_⟩ (by simp only;omega)
      ·exact r9
      ·rw[<- g3,hstep,if_neg hge,laa];rfl
     ·have hlt:i'<k:=by
       rcases Nat.lt_or_ge i' k with h|h
       ·exact h
       ·simp[Nat.not_lt.2 h] at hc
      repeat' first|refine Wz ?_|intro _
      refine o6 (k,i',v',done++[(decide (i'<k),k,n'-k)]) ⟨rfl,rfl,rfl,trivial⟩ ?_ ⟨by simp only;omega,by simp only[hlen];omega,?_⟩ (by simp only;omega)
      ·exact r9
      ·rw[<- g3,hstep,if_pos hlt,laa];rfl⟩
instance b5z {n i:Int}:Ans prog GL 397 [int n,int i] True (int (dK n i).length):=⟨fun _=>by
 refine qE func397 rfl ntmps397 rfl (fun _ hs=>?_);repeat' first|refine Wz ?_|intro _
 refine Y5 (fun h1=>?_) (fun h1=>?_)
 ·repeat' first|refine Wz ?_|intro _
  refine d9 ?_;simp[I8,dK,h1]
 ·repeat' first|refine Wz ?_|intro _
  refine Y5 (fun h2=>?_) (fun h2=>?_)
  ·repeat' first|refine Wz ?_|intro _
   refine d9 ?_;simp[I8,dK,h2]
  ·repeat' first|refine Wz ?_|intro _
   refine o9 (fun h3=>?_) (fun h3=>?_)
   ·repeat' first|refine Wz ?_|intro _
    refine d9 ?_;simp[I8,dK,h3]
   ·repeat' first|refine Wz ?_|intro _
    obtain⟨N,rfl⟩:∃ N:Nat,n=N:=⟨n.toNat,om⟩;obtain⟨I,rfl⟩:∃ I:Nat,i=I:=⟨i.toNat,om⟩;have hway:dK N I=turns N I:=by simp[dK,h1,h2,h3]
    refine z8 (α:=Nat × Nat × Nat) (fun q=>[(0,int q.1),(1,int q.2.1),(5,int q.2.2)]) (fun q=>[])
     (fun q=>q.2.1<q.1/\q.2.2+q.1<=2001/\q.2.2+(turns q.1 q.2.1).length=(turns N I).length) (fun q=>q.1) (N,I,0) ⟨rfl,rfl,rfl,trivial⟩ slr ⟨by simp only;omega,by simp only;omega,by simp only;omega⟩ ?_
    rintro⟨n',i',d⟩ ⟨g1,g2,g3⟩;dsimp only at g1 g2 g3 ⊢;repeat' first|refine Wz ?_|intro _
    refine o9 (fun hone=>?_) (fun hone=>?_)
    ·repeat' first|refine Wz ?_|intro _
     have hstep:=JO n' i' om;have hk0:((n':Int)+1) / 2=(((n'+1) / 2:Nat):Int):=by omega
     rw[hk0];generalize hk:(n'+1) / 2=k at *;refine o9 (fun hlt=>?_) (fun hlt=>?_)
     ·repeat' first|refine Wz ?_|intro _
      rw[if_pos om] at hstep;have:=congrArg List.length hstep;simp only[List.length_cons] at this;exact o6 (k,i',d+1) ⟨rfl,rfl,rfl,trivial⟩ slr ⟨by simp only;omega,by simp only;omega,by simp only;omega⟩ (by simp only;omega)
     ·repeat' first|refine Wz ?_|intro _
      rw[if_neg om] at hstep;have:=congrArg List.length hstep;simp only[List.length_cons] at this;rw[show (i':Int)-(k:Int)=((i'-k:Nat):Int) by omega,show (n':Int)-(k:Int)=((n'-k:Nat):Int) by omega];exact o6 (n'-k,i'-k,d+1) ⟨rfl,rfl,rfl,trivial⟩ slr ⟨by simp only;omega,by simp only;omega,by simp only;omega⟩ (by simp only;omega)
    ·obtain rfl:n'=1:=by omega
     repeat' first|refine Wz ?_|intro _
     refine d9 ?_;rw[PX] at g3;rw[hway,<- g3];rfl⟩
end Go.Proofs.YtocpacdnjbjjmaaGreatDoor
