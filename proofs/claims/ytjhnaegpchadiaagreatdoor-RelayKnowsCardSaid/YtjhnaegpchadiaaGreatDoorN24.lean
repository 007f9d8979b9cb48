/- . -/
import Derived.Test.YtjhnaegpchadiaaGreatDoorN23
namespace Go.Proofs.YtjhnaegpchadiaaGreatDoor
open Go Go.RowKit Tw Av
structure PG (p:Prf):Prop where
 a:0<=p.a/\p.a<=2000
 m:0<=p.m/\p.m<=2000
 l:p.p.length<=16
theorem SK (h:Hsh):R9 h.l=h:=by
 unfold R9;rw[dif_pos h.len]
theorem Ye (l:List Hsh):(l.map fun h=>h.l).map R9=l:=by
 rw[List.map_map]
 conv=>rhs;rw[<- List.map_id l]
 exact List.map_congr_left fun h _=>SK h
theorem YX {p:Prf}(h:PG p)(r:Bs):pI (Y7 p++r)=p.p.map (fun h=>h.l)/\xG (Y7 p++r)=(if r=[] then 0 else 10)/\DZ (Y7 p++r)=p:=by
 obtain⟨⟨h1,h2⟩,⟨h3,h4⟩,h5⟩:=h;have hB:Y7 p++r=p9 105 p.a++(p9 109 p.m++(M3 112 (p.p.map fun h=>h.l)++r)):=by
  unfold Y7;simp only[List.append_assoc]
 have hall:∀ s∈p.p.map (fun h=>h.l),(s.length:Int)<=32/\s.length<=16777215:=fun s hs=>by
  obtain⟨q,_,rfl⟩:=List.mem_map.1 hs;rw[q.len];decide
 obtain⟨a1,a2,a3⟩:=rJ (c:=105) (most:=2000) (n:=p.a) (r:=p9 109 p.m++(M3 112 (p.p.map fun h=>h.l)++r)) dc dc h1 h2 dc;obtain⟨b1,b2,b3⟩:=rJ (c:=109) (most:=2000) (n:=p.m) (r:=M3 112 (p.p.map fun h=>h.l)++r) dc dc h3 h4 dc;obtain⟨d1,d2,d3⟩:=JS (c:=112) (many:=16) (most:=32) (l:=p.p.map fun h=>h.l) (r:=r) dc dc (by rw[llm];omega) hall (by
  have:=AX (c:=112) (n:=32) (l:=p.p.map fun h=>h.l) (fun s hs=>by have:=hall s hs;omega) dc;rw[llm] at this;omega)
 have s1:jR (Y7 p++r)=p9 109 p.m++(M3 112 (p.p.map fun h=>h.l)++r):=by unfold jR;rw[hB,a2]
 have t1:nA (Y7 p++r)=false:=by unfold nA;rw[hB,a3]
 have s2:eX (Y7 p++r)=M3 112 (p.p.map fun h=>h.l)++r:=by unfold eX;rw[s1,t1,b2]
 have t2:iT (Y7 p++r)=false:=by unfold iT;rw[s1,t1,b3]
 have hL:pI (Y7 p++r)=p.p.map (fun h=>h.l):=by unfold pI;rw[s2,t2,d1]
 refine⟨hL,?_,?_⟩
 ·unfold xG;rw[s2,t2,d2,d3];unfold R3;by_cases hr:r=[]
  ·simp[hr]
  ·simp[hr]
 ·unfold DZ;rw[hL,Ye,s1,t1,b1,hB,a1]
theorem Ta (p:Prf):(p.p.map fun h=>h.l).all jZ=true:=by
 rw[List.all_eq_true];intro s hs;obtain⟨q,_,rfl⟩:=List.mem_map.1 hs;exact dT q.len
theorem OT {p:Prf}(h:PG p):fK (Y7 p)=p/\bY (Y7 p)=0/\bY (Y7 p++[120])=10:=by
 obtain⟨a1,a2,a3⟩:=YX h [];obtain⟨b1,b2,b3⟩:=YX h [120];rw[List.append_nil] at a1 a2 a3;have hk:jS (Y7 p)=true:=by
  unfold jS;rw[a1,a2,Ta];rfl
 have hk2:jS (Y7 p++[120])=false:=by
  unfold jS;rw[b2,Bool.and_eq_false_iff];exact .inr rfl
 unfold fK bY;rw[if_pos hk,if_pos hk,hk2,a3];exact⟨rfl,rfl,rfl⟩
theorem Bl {p:Prf}(h:PG p):(Y7 p).length<=4000:=by
 have h1:(digits p.a.toNat).length<=8:=yH 8 _;have h2:(digits p.m.toNat).length<=8:=yH 8 _;have h3:=h.l;have hall:∀ s∈p.p.map (fun h=>h.l),s.length<=32:=fun s hs=>by
  obtain⟨q,_,rfl⟩:=List.mem_map.1 hs;rw[q.len];exact Nat.le_refl _
 have h4:=AX (c:=112) (n:=32) hall dc;rw[llm] at h4;have e:Y7 p=j6 105 (digits p.a.toNat)++j6 109 (digits p.m.toNat)++j6 112 ((p.p.map fun h=>h.l).flatMap (j6 112)):=rfl;rw[e,qW om,qW om,qW om];simp only[List.length_append,List.length_cons];omega
structure SG (l:List Ent)(p:Prf):Prop where
 n:l.length<=1
 f:∀ x∈l,x.key.length<=4000/\x.val.length<=4000
 p:PG p
theorem YA {l:List Ent}{p:Prf}{r:Bs}(h:SG l p):fH (Z7 l p++r) false=true/\pF (Z7 l p++r) false=l/\lL (Z7 l p++r) false=p/\kP (Z7 l p++r) false=r/\fI (Z7 l p++r) false=false:=by
 have hB:Z7 l p++r=M3 101 (gQ l)++(j6 80 (Y7 p)++r):=by
  unfold Z7;simp only[List.append_assoc]
 have hsT:(gQ l).length<=2:=by rw[IV];have:=h.n;omega
 have hall:∀ s∈gQ l,s.length<=4000:=fun s hs=>by
  unfold gQ at hs;obtain⟨x,hx,hs⟩:=List.mem_flatMap.1 hs;have:=h.f x hx;simp only[List.mem_cons,List.not_mem_nil,or_false] at hs;rcases hs with rfl|rfl
  ·exact this.1
  ·exact this.2
 have hps:=Bl h.p;obtain⟨a1,a2,a3⟩:=JS (c:=101) (many:=2) (most:=4000) (l:=gQ l) (r:=j6 80 (Y7 p)++r) dc dc om (fun s hs=>by have:=hall s hs;omega) (by
  have:=AX (c:=101) hall dc;omega)
 obtain⟨b1,b2,b3⟩:=rH (c:=80) (most:=4000) (s:=Y7 p) (r:=r) dc dc om om;have s1:kQ (Z7 l p++r) false=j6 80 (Y7 p)++r:=by unfold kQ;rw[hB,a2]
 have t1:mZ (Z7 l p++r) false=false:=by unfold mZ;rw[hB,a3]
 have hX:rC (Z7 l p++r) false=gQ l:=by unfold rC;rw[hB,a1]
 have hT:mY (Z7 l p++r) false=Y7 p:=by unfold mY;rw[s1,t1,b1]
 have hS:kP (Z7 l p++r) false=r:=by unfold kP;rw[s1,t1,b2]
 have hb:fI (Z7 l p++r) false=false:=by unfold fI;rw[s1,t1,b3]
 obtain⟨q1,q2,_⟩:=OT h.p;have hne:(gQ l).length≠1:=by rw[IV];omega
 have hk:fH (Z7 l p++r) false=true:=by
  unfold fH;rw[hT,hb,hX,q2,dT hne];rfl
 refine⟨hk,?_,?_,hS,hb⟩
 ·unfold pF;rw[if_pos hk,hX];have hn:=h.n;rcases l with _|⟨x,_|⟨y,l⟩⟩
  ·rfl
  ·rfl
  ·simp at hn
 ·unfold lL;rw[if_pos hk,hT,q1]
structure GG (g:Gp):Prop where
 n:0<=g.n/\g.n<=2000
 a:SG g.l g.a
 b:SG g.r g.b
theorem ZM {g:Gp}(h:GG g):kT (jF g)=g/\jU (jF g)=0:=by
 have hB:jF g=p9 109 g.n++(Z7 g.l g.a++(Z7 g.r g.b++[])):=by
  unfold jF;simp only[List.append_assoc,List.append_nil]
 obtain⟨a1,a2,a3⟩:=rJ (c:=109) (most:=2000) (n:=g.n) (r:=Z7 g.l g.a++(Z7 g.r g.b++[])) dc dc h.n.1 h.n.2 dc;obtain⟨b1,b2,b3,b4,b5⟩:=YA (r:=Z7 g.r g.b++[]) h.a;obtain⟨d1,d2,d3,d4,d5⟩:=YA (r:=[]) h.b;have s1:Q9 (jF g)=Z7 g.l g.a++(Z7 g.r g.b++[]):=by unfold Q9;rw[hB,a2]
 have t1:Z8 (jF g)=false:=by unfold Z8;rw[hB,a3]
 have s2:O9 (jF g)=Z7 g.r g.b++[]:=by unfold O9;rw[s1,t1,b4]
 have t2:V4 (jF g)=false:=by unfold V4;rw[s1,t1,b5]
 have hE:xI (jF g)=0:=by unfold xI;rw[s2,t2,d4,d5];rfl
 have hV:ED (jF g)=g:=by
  unfold ED;rw[s1,t1,s2,t2,b2,b3,d2,d3,hB,a1]
 have hk:zM (jF g)=true:=by
  unfold zM;rw[s1,t1,s2,t2,b1,d1,hE];rfl
 unfold kT jU;rw[if_pos hk,if_pos hk,hV];exact⟨rfl,rfl⟩
theorem GZ:PG mK:=⟨dc,dc,dc⟩
end Go.Proofs.YtjhnaegpchadiaaGreatDoor



namespace Go.Proofs.YtjhnaegpchadiaaGreatDoor
open Go Go.RowKit Tw Av Go.Proofs.Tryz
theorem Dw (k:Bs):(kY k).length=64:=by rw[kY,UD];simp[zeros]
theorem Wv (a:Bs):tF [a]=aM a:=by simp[tF]
theorem Wu (a b:Bs):tF [a,b]=aM (a++b):=by simp[tF]
abbrev tO (l:Bs):AV:=.agg 64 (l.map w9)
instance b1P {k:Bs}:Ans prog GL 324 [str k] (k.length<=1000000) (tO (kY k)):=⟨fun hk=>by
 refine qF func324 ntmps324 fun _ hs=>?_;repeat' first|refine Vz ?_|intro _
 refine o8 (fun h1=>?_) (fun h1=>?_)
 ·have:LenLe k 1000000:=⟨hk⟩;repeat' first|refine Vz ?_|intro _
  rw[Wv];refine MU (l:=zeros 64) (a:=(aM k).l) rfl ?_;repeat' first|refine Vz ?_|intro _
  refine d9 ?_;rw[kY,if_pos om];rfl
 ·repeat' first|refine Vz ?_|intro _
  refine MU (l:=zeros 64) (a:=k) rfl ?_;repeat' first|refine Vz ?_|intro _
  refine d9 ?_;rw[kY,if_neg om];rfl⟩
theorem Ve {g:Nat}{a b:UInt8}{T:TypeId}:Av.Spec prog GL 378 [w9 a,ptr g] [.var g T (w9 b)] fun u m=>u=w9 (a ^^^ b)/\m=[.var g T (w9 b)]:=by
 refine qF func378 ntmps378 fun _ hs=>?_;repeat' first|refine Vz ?_|intro _
 exact l9 [.var g T (w9 b)] ⟨rfl,rfl⟩ slr
theorem Oo {l:Bs}{b:UInt8}{i:Nat}(h:i<l.length):(Q8 b (l.take i)++l.drop i).set i (l[i] ^^^ b)=Q8 b (l.take (i+1))++l.drop (i+1):=by
 have h1:(Q8 b (l.take i)).length=i:=by simp[Q8];omega
 rw[List.set_append,if_neg om,h1,Nat.sub_self,List.drop_eq_getElem_cons h,List.set_cons_zero,List.take_succ_eq_append_getElem h,Q8,Q8,List.map_append,laa];rfl
theorem XF {l:Bs}(hl:l.length=64)(b:UInt8)(B:Int)(hB:B=b.toNat):SpecE prog GL 327 [tO l,.lit (.int .u8 B)] (str (Q8 b l)):=by
 subst hB;refine qF func327 ntmps327 fun _ hs=>?_;repeat' first|refine Vz ?_|intro _
 rename_i g2 g3;refine gH (vs:=[.pointer (some ⟨g3,0,none⟩)]) ?_;repeat' first|refine Vz ?_|intro _
 refine y5 (α:=Nat) (fun i=>[(2,ptr g2),(5,F4 378 [.pointer (some ⟨g3,0,none⟩)]),(9,tO l),(10,int i)])
  (fun i=>[.var g3 5 (w9 b),.var g2 304 (tO (Q8 b (l.take i)++l.drop i))]) (fun i=>i<=64) (fun i=>64-i) 0 ⟨rfl,rfl,rfl,rfl,trivial⟩ ?_ (Nat.zero_le _) ?_
 ·exact x9
 intro i hi;have hlen:(Q8 b (l.take i)++l.drop i).length=64:=by simp[Q8];omega
 repeat' first|refine Vz ?_|intro _
 refine o8 (fun hlt=>?_) (fun hlt=>?_)
 ·have hil:i<l.length:=om
  repeat' first|refine Vz ?_|intro _
  refine VF (ps:=l.map w9) (u:=w9 l[i]) i ?_ rfl om (by simp[hil]) (by intro p hp;obtain⟨c,_,rfl⟩:=List.mem_map.1 hp;rfl) rfl;repeat' first|refine Vz ?_|intro _
  refine nT (args:=[w9 l[i]]) (cs:=[.pointer (some ⟨g3,0,none⟩)]) [.var g3 5 (w9 b)] _ (by rw[hs];exact Ve) (fun u m1 hh=>?_) lpr;obtain⟨rfl,rfl⟩:=hh;repeat' first|refine Vz ?_|intro _
  refine O4 i ?_;refine kM (j:=i) (ps:=(Q8 b (l.take i)++l.drop i).map w9) (by simp only[List.length_map];omega) ?_;repeat' first|refine Vz ?_|intro _
  rw[show ((Q8 b (l.take i)++l.drop i).map w9).set i (w9 (l[i] ^^^ b))=((Q8 b (l.take i)++l.drop i).set i (l[i] ^^^ b)).map w9 by rw[List.map_set],Oo hil];refine o6 (i+1) ⟨rfl,rfl,rfl,rfl,trivial⟩ ?_ om om;exact x9
 ·obtain rfl:i=64:=by omega
  rw[List.take_of_length_le om,List.drop_of_length_le om,List.append_nil];repeat' first|refine Vz ?_|intro _
  exact d9 rfl
theorem ImpC.one {n:Nat}{ps:List AV}:ImpC (.agg n [.agg n ps]) (.agg n ps):=fun ok w cs h=>by
 rw[RC] at h;obtain⟨h1,h2⟩:=h;rw[RCs] at h2;obtain⟨c1,c2,rfl,h3,h4⟩:=h2;rw[RCs] at h4;subst h4
 rwa [List.append_nil]
theorem Rl {k:Bs}(hk:k.length<=1000000):Av.Spec prog GL 244 [str k] [] fun u m=>∃ g,u=ptr g/\m=[.var g 385 (tO (kY k))]:=by
 refine qF func244 ntmps244 fun _ hs=>?_;repeat' first|refine Vz ?_|intro _
 rename_i g;refine GM (g:=g) (v':=tO (kY k)) ImpC.one ?_;exact l9 [.var g 385 (tO (kY k))] ⟨g,rfl,rfl⟩ slr
theorem vO (b:UInt8)(l:Bs):(Q8 b l).length=l.length:=llm _
theorem a1R {l:List Bs}{i:Nat}(h:i<l.length):(l.take (i+1)).flatten=(l.take i).flatten++l[i]:=by
 rw[List.take_succ_eq_append_getElem h,List.flatten_append];simp
theorem Ha {l:List Bs}(i:Nat):(l.take i).flatten.length<=l.flatten.length:=by
 have h:=congrArg (fun q=>(List.flatten q).length) (List.take_append_drop i l);simp only[List.flatten_append,List.length_append] at h;omega
theorem Qz {g:Nat}{kb:Bs}{l:List Bs}{id:Option Value}(hk:kb.length=64)(hl:l.flatten.length<=1000000000000)(hn:l.length<=1000000000000):Av.Spec prog GL 245 [ptr g,.sl 1 (l.map str) id] [.var g 385 (tO kb)] fun u m=>u=hA (aM (Q8 92 kb++(aM (Q8 54 kb++l.flatten)).l))/\m=[]:=by
 have hlm:(l.map str).length=l.length:=llm _;refine qF func245 ntmps245 fun _ hs=>?_;repeat' first|refine Vz ?_|intro _
 refine I8 [] _ (by rw[hs];exact lX) (fun u m1 hh=>?_) lpr;obtain⟨gh,rfl,rfl⟩:=hh;repeat' first|refine Vz ?_|intro _
 refine I8 [] _ (by rw[hs];exact XF hk 54 54 rfl) (fun u m1 hh=>?_) lpr;obtain⟨rfl,rfl⟩:=hh;refine I8 [.var gh 422 (aD h0 (zeros 64) 0)] _ (by rw[hs];exact LA (M:=[]) (s:=Q8 54 kb) HS.nil (by simp[vO];omega)) (fun u m1 hh=>?_) lpr;obtain⟨rfl,x0,b0,hH0,rfl⟩:=hh;rw[List.nil_append] at hH0 ⊢;repeat' first|refine Vz ?_|intro _
 rename_i g4 g5;refine y5 (α:=Nat × H8 × Bs) (fun q=>[(4,ptr g4),(5,ptr g5),(6,ptr gh),(20,.sl 1 (l.map str) id),(21,int (l.map str).length),(22,int q.1)])
  (fun q=>[.var gh 422 (aD q.2.1 q.2.2 (Q8 54 kb++(l.take q.1).flatten).length),.var g5 304 (tO kb),.var g4 34 (hA F3)]) (fun q=>q.1<=l.length/\HS (Q8 54 kb++(l.take q.1).flatten) q.2.1 q.2.2) (fun q=>l.length-q.1) (0,x0,b0) ⟨rfl,rfl,rfl,rfl,rfl,rfl,trivial⟩ ?_ ⟨Nat.zero_le _,by simpa using hH0⟩ ?_
 ·dsimp only;rw[List.take_zero,List.flatten_nil,List.append_nil];exact x9
 rintro⟨i,x,b⟩ ⟨hi,hH⟩;dsimp only at hi hH ⊢;repeat' first|refine Vz ?_|intro _
 have hle:=Ha (l:=l) i;refine o8 (fun hlt=>?_) (fun hlt=>?_)
 ·have hil:i<l.length:=om
  have hle2:=Ha (l:=l) (i+1);have hfn:=a1R hil;rw[hfn,lla] at hle2;repeat' first|refine Vz ?_|intro _
  refine I8 [.var gh 422 (aD x b (Q8 54 kb++(l.take i).flatten).length)] _ (by rw[hs];exact LA (s:=l[i]) hH (by rw[lla,vO];omega)) (fun u m1 hh=>?_) lpr;obtain⟨rfl,x',b',hH',rfl⟩:=hh;rw[laa,<- hfn] at hH' ⊢;repeat' first|refine Vz ?_|intro _
  refine o6 (i+1,x',b') ⟨rfl,rfl,rfl,rfl,rfl,rfl,trivial⟩ ?_ ⟨hil,hH'⟩ (by dsimp only;omega);exact x9
 ·obtain rfl:i=l.length:=by omega
  rw[List.take_length] at hH ⊢;repeat' first|refine Vz ?_|intro _
  refine I8 [] _ (by rw[hs];exact XF hk 92 92 rfl) (fun u m1 hh=>?_) lpr;obtain⟨rfl,rfl⟩:=hh;repeat' first|refine Vz ?_|intro _
  refine I8 [.var gh 422 (aD x b (Q8 54 kb++l.flatten).length)] _ (by rw[hs];exact Eu hH (by rw[lla,vO];omega)) (fun u m1 hh=>?_) lpr;obtain⟨rfl,rfl⟩:=hh;have:LenLe (Q8 92 kb) 64:=⟨by rw[vO];omega⟩;repeat' first|refine Vz ?_|intro _
  rw[Wu];repeat' first|refine Vz ?_|intro _
  exact l9 [] ⟨rfl,rfl⟩ (List.nil_sublist _)
instance b1O {k s:Bs}:Ans prog GL 154 [str k,str s] (k.length<=1000000/\s.length<=1000000000) (hA (DY k s)):=⟨fun hp=>by
 obtain⟨hk,hsl⟩:=hp;refine qF func154 ntmps154 fun _ hs=>?_;repeat' first|refine Vz ?_|intro _
 refine I8 [] _ (by rw[hs];exact Rl hk) (fun u m1 hh=>?_) lpr;obtain⟨g,rfl,rfl⟩:=hh;repeat' first|refine Vz ?_|intro _
 refine I8 [.var g 385 (tO (kY k))] _ (by rw[hs];exact Qz (l:=[s]) (id:=none) (Dw k) (by simpa using by omega) sm) (fun u m1 hh=>?_) lpr;obtain⟨rfl,rfl⟩:=hh;repeat' first|refine Vz ?_|intro _
 refine d9 ?_;rw[DY];simp[J6]⟩

theorem Zd (k:Bs){i:Nat}(h:i<64):(kY k).getD i 0=if i<(if 64<k.length then (aM k).l else k).length then (if 64<k.length then (aM k).l else k).getD i 0 else 0:=by
 have hl:(if 64<k.length then (aM k).l else k).length<=64:=by
  split
  ·rw[Hsh.len];omega
  ·omega
 have hz:(zeros 64).length=64:=by simp[zeros]
 have he:kY k=(if 64<k.length then (aM k).l else k)++(zeros 64).drop (if 64<k.length then (aM k).l else k).length:=by rw[kY,mE,hz,List.take_of_length_le hl]
 rw[he];generalize (if 64<k.length then (aM k).l else k)=q at *;by_cases hi:i<q.length
 ·rw[if_pos hi,List.getD,List.getD,List.getElem?_append_left hi]
 ·rw[if_neg hi,List.getD,List.getElem?_append_right om,zeros,List.drop_replicate,List.getElem?_replicate,if_pos om];rfl
theorem WA {l:Bs}{b:UInt8}{i:Nat}(h:i<l.length):Q8 b (l.take i)++[l[i] ^^^ b]=Q8 b (l.take (i+1)):=by
 rw[List.take_succ_eq_append_getElem h,Q8,Q8,List.map_append];rfl
instance b2j {k s:Bs}:Ans prog GL 35 [str k,str s] (k.length<=1000000/\s.length<=1000000000) (hA (DY k s)):=⟨fun hp=>by
 obtain⟨hk,hsl⟩:=hp;have hkl:=Dw k;have hkt:=fun i h=>Zd k (i:=i) h;refine qF func35 ntmps35 fun _ hs=>?_;repeat' first|refine Vz ?_|intro _
 rename_i g4;refine yY (α:=Unit) (fun _=>[(0,str (if 64<k.length then (aM k).l else k)),(1,str s),(4,ptr g4)]) (fun _=>[.var g4 34 (hA F3)]) ?_ (fun _=>?_)
 ·refine o8 (fun h1=>?_) (fun h1=>?_)
  ·have:LenLe k 1000000:=⟨hk⟩;repeat' first|refine Vz ?_|intro _
   exact X7 () ⟨by rw[if_pos om];rfl,rfl,rfl,trivial⟩ slr
  ·repeat' first|refine Vz ?_|intro _
   exact X7 () ⟨by rw[if_neg om];rfl,rfl,rfl,trivial⟩ slr
 generalize (if 64<k.length then (aM k).l else k)=q at *;generalize hK:kY k=K at *;repeat' first|refine Vz ?_|intro _
 refine aT 5 (Imp.nil (k:=1)) ?_;refine aT 6 (Imp.nil (k:=1)) ?_;refine Q6 (fun ok w h=>h.full 5 1 none 0) ?_;refine Q6 (fun ok w h=>h.full 5 1 none 0) ?_;refine y5 (α:=Nat × Value × Value) (fun z=>[(0,str q),(1,str s),(4,ptr g4),(5,.sl 1 ((Q8 54 (K.take z.1)).map w9) (some z.2.1)),(6,.sl 1 ((Q8 92 (K.take z.1)).map w9) (some z.2.2)),(7,int z.1)])
  (fun z=>[.tail 5 1 z.2.1,.tail 5 1 z.2.2,.var g4 34 (hA F3)]) (fun z=>z.1<=64) (fun z=>64-z.1) (0,.slice none 0 0,.slice none 0 0) ⟨rfl,rfl,rfl,rfl,rfl,rfl,trivial⟩ slr (Nat.zero_le _) ?_
 rintro⟨i,v5,v6⟩ hi;dsimp only at hi ⊢;repeat' first|refine Vz ?_|intro _
 refine o8 (fun hlt=>?_) (fun hlt=>?_)
 ·have hi64:i<64:=om
  have hc:=hkt i hi64;have hl5:(Q8 54 (K.take i)).length=i:=by rw[vO,List.length_take];omega
  have hl6:(Q8 92 (K.take i)).length=i:=by rw[vO,List.length_take];omega
  have hx5:=WA (b:=54) (l:=K) (i:=i) om;have hx6:=WA (b:=92) (l:=K) (i:=i) om;have hge:K[i]'(by omega)=K.getD i 0:=by simp[List.getD,show i<K.length by omega]
  rw[hge] at hx5 hx6;generalize hcc:K.getD i 0=c at *;repeat' first|refine Vz ?_|intro _
  refine yY (α:=Unit) (fun _=>[(0,str q),(1,str s),(4,ptr g4),(5,.sl 1 ((Q8 54 (K.take i)).map w9) (some v5)),(6,.sl 1 ((Q8 92 (K.take i)).map w9) (some v6)),(7,int i),(8,w9 c)]) (fun _=>[.tail 5 1 v5,.tail 5 1 v6,.var g4 34 (hA F3)]) ?_ (fun _=>?_)
  ·refine o8 (fun h1=>?_) (fun h1=>?_)
   ·have hiq:i<q.length:=om
    repeat' first|refine Vz ?_|intro _
    refine sH (c:=c) (b:=q) i ?_ (by rw[hc,if_pos hiq];simp[List.getD,hiq]);repeat' first|refine Vz ?_|intro _
    exact X7 () ⟨rfl,rfl,rfl,rfl,rfl,rfl,rfl,trivial⟩ slr
   ·rw[hc,if_neg om];repeat' first|refine Vz ?_|intro _
    exact X7 () ⟨rfl,rfl,rfl,rfl,rfl,rfl,rfl,trivial⟩ slr
  ·repeat' first|refine Vz ?_|intro _
   refine I1 (fun v5'=>?_);repeat' first|refine Vz ?_|intro _
   refine I1 (fun v6'=>?_);repeat' first|refine Vz ?_|intro _
   refine aR 5 (v':=.sl 1 ((Q8 54 (K.take (i+1))).map w9) (some v5')) (Imp.of_eq (by rw[<- hx5,List.map_append])) ?_;refine aR 6 (v':=.sl 1 ((Q8 92 (K.take (i+1))).map w9) (some v6')) (Imp.of_eq (by rw[<- hx6,List.map_append])) ?_;exact o6 (i+1,v5',v6') ⟨rfl,rfl,rfl,rfl,rfl,rfl,trivial⟩ slr om (by dsimp only;omega)
 ·obtain rfl:i=64:=by omega
  rw[List.take_of_length_le om];have:LenLe (Q8 54 K) 64:=⟨by rw[vO];omega⟩;have:LenLe (Q8 92 K) 64:=⟨by rw[vO];omega⟩;have:LenLe s 1000000000:=⟨hsl⟩;repeat' first|refine Vz ?_|intro _
  refine d9 ?_;rw[DY,hK];rfl⟩
instance b4L {c:Bs}{h t:Int}{r:Hsh}:Ans prog GL 155 [.agg 35 [str c,int h,int t,hA r]] (h<=9223372036854775807/\t<=9223372036854775807) (str (O7 ⟨c,h,t,r⟩)):=⟨fun hp=>by
 obtain⟨h1,h2⟩:=hp;refine qF func155 ntmps155 fun _ hs=>?_;repeat' first|refine Vz ?_|intro _
 exact d9 rfl⟩
instance b2E {c:Bs}{h t:Int}{r:Hsh}:Ans prog GL 36 [.agg 35 [str c,int h,int t,hA r]] (h<=9223372036854775807/\t<=9223372036854775807) (str (O7 ⟨c,h,t,r⟩)):=⟨fun hp=>by
 obtain⟨h1,h2⟩:=hp;refine qF func36 ntmps36 fun _ hs=>?_;repeat' first|refine Vz ?_|intro _
 exact d9 rfl⟩
theorem Ev (x:Hdr):(O7 x).length<=100000000:=by
 have h1:=(inferInstance:LenLe (j6 99 x.c++p9 104 x.h++p9 116 x.t++j6 114 x.r.l) _).out;unfold O7;omega
instance b5A {k c:Bs}{h t:Int}{r:Hsh}:Ans prog GL 69 [str k,.agg 35 [str c,int h,int t,hA r]] (k.length<=1000000/\h<=9223372036854775807/\t<=9223372036854775807) (hA (J8 k ⟨c,h,t,r⟩)):=⟨fun hp=>by
 obtain⟨h0,h1,h2⟩:=hp;have h3:=Ev ⟨c,h,t,r⟩;refine qF func69 ntmps69 fun _ hs=>?_;repeat' first|refine Vz ?_|intro _
 exact d9 rfl⟩
instance b2P {k c:Bs}{h t:Int}{r:Hsh}:Ans prog GL 13 [str k,.agg 35 [str c,int h,int t,hA r]] (k.length<=1000000/\h<=9223372036854775807/\t<=9223372036854775807) (hA (J8 k ⟨c,h,t,r⟩)):=⟨fun hp=>by
 obtain⟨h0,h1,h2⟩:=hp;have h3:=Ev ⟨c,h,t,r⟩;refine qF func13 ntmps13 fun _ hs=>?_;repeat' first|refine Vz ?_|intro _
 exact d9 rfl⟩
instance b1I {c:Bs}{h t:Int}{r:Hsh}:Ans prog GL 159 [.agg 35 [str c,int h,int t,hA r]] True (.agg 34 [int h,int t,hA r]):=⟨fun _=>by
 refine qF func159 ntmps159 fun _ hs=>?_;repeat' first|refine Vz ?_|intro _
 exact d9 rfl⟩
instance b4M {c:Bs}{h t:Int}{r:Hsh}:Ans prog GL 250 [str c,.agg 34 [int h,int t,hA r]] True (.agg 35 [str c,int h,int t,hA r]):=⟨fun _=>by
 refine qF func250 ntmps250 fun _ hs=>?_;repeat' first|refine Vz ?_|intro _
 exact d9 rfl⟩
instance b2F {c k:Bs}{p:Int}{f:Bool}{X:AV}{h t:Int}{r:Hsh}:Ans prog GL 440 [.agg 5 [str c,str k,int p,j3 f,X],.agg 34 [int h,int t,hA r]] True (.agg 35 [str c,int h,int t,hA r]):=⟨fun _=>by
 refine qF func440 ntmps440 fun _ hs=>?_;repeat' first|refine Vz ?_|intro _
 exact d9 rfl⟩
instance b5r {c:Bs}{h t:Int}{r:Hsh}:Ans prog GL 249 [.agg 35 [str c,int h,int t,hA r]] True (j3 (Q4 ⟨c,h,t,r⟩)):=⟨fun _=>by
 rcases c with _|⟨a,c⟩
 ·refine qF func249 ntmps249 fun _ hs=>?_;repeat' (first|refine W ?_|refine M7 ?_|refine lV ?_|intro _|refine y7 (fun _=>?_)|refine o8 ?_ ?_|refine qP ?_ ?_|refine Y9 ?_ ?_|refine FH ?_ ?_)
  refine d9 ?_;simp[J6,Q4]
 ·refine qF func249 ntmps249 fun _ hs=>?_;repeat' (first|refine W ?_|refine M7 ?_|refine lV ?_|intro _|refine y7 (fun _=>?_)|refine o8 ?_ ?_|refine qP ?_ ?_|refine Y9 ?_ ?_|refine FH ?_ ?_)
  all_goals (refine d9 ?_;refine UT ?_;simp only[Q4,decide_eq_true_eq,Bool.false_eq_true,false_iff,List.length_cons] at *;omega)⟩
instance b2O {c:Bs}{h t:Int}{r:Hsh}:Ans prog GL 438 [.agg 35 [str c,int h,int t,hA r]] True (j3 (Q4 ⟨c,h,t,r⟩)):=⟨fun _=>by
 refine qF func438 ntmps438 fun _ hs=>?_;repeat' (first|refine W ?_|refine M7 ?_|refine lV ?_|intro _|refine y7 (fun _=>?_)|refine o8 ?_ ?_|refine qP ?_ ?_|refine Y9 ?_ ?_|refine FH ?_ ?_)
 all_goals (refine d9 ?_;refine UT ?_;simp only[Q4,decide_eq_true_eq,Bool.false_eq_true,false_iff] at *;omega)⟩
instance b4S {h t h' t':Int}{r r':Hsh}:Ans prog GL 251 [.agg 34 [int h,int t,hA r],.agg 34 [int h',int t',hA r']] True (j3 (Y2 ⟨h,t,r⟩ ⟨h',t',r'⟩)):=⟨fun _=>by
 refine qF func251 ntmps251 fun _ hs=>?_;repeat' (first|refine W ?_|refine M7 ?_|refine lV ?_|intro _|refine y7 (fun _=>?_)|refine o8 ?_ ?_|refine qP ?_ ?_|refine Y9 ?_ ?_|refine FH ?_ ?_)
 all_goals (refine d9 ?_;refine UT ?_;simp only[Y2,decide_eq_true_eq,Bool.false_eq_true,false_iff] at *;omega)⟩
instance b4r {l:List Sta}{xs:List AV}{id:Option Value}[hx:Stas xs l]:Ans prog GL 72 [.sl 34 xs id] True (D7 (dF l)):=⟨fun _=>by
 have h:=hx.out;subst h;have hm:(l.map D7).length=l.length:=llm _;refine qF func72 ntmps72 fun _ hs=>?_;refine CK 0 (fun hb=>?_);have hb:=tL hb;repeat' first|refine Vz ?_|intro _
 refine o8 (fun h1=>?_) (fun h1=>?_)
 ·repeat' first|refine Vz ?_|intro _
  refine d9 ?_;obtain rfl:l=[]:=List.eq_nil_of_length_eq_zero om;rfl
 ·repeat' first|refine Vz ?_|intro _
  refine Z5 (l:=l) (f:=D7) (l.length-1) om ?_;repeat' first|refine Vz ?_|intro _
  refine d9 ?_;rw[dF,List.getLastD_eq_getLast?,List.getLast?_eq_getElem?,List.getElem?_eq_getElem om];rfl⟩
instance b4q {c k:Bs}{p:Int}{f:Bool}{l:List Sta}{xs:List AV}{id:Option Value}[Stas xs l]:Ans prog GL 31 [.agg 5 [str c,str k,int p,j3 f,.sl 34 xs id]] True (D7 (dF l)):=⟨fun _=>by
 refine qF func31 ntmps31 fun _ hs=>?_;repeat' first|refine Vz ?_|intro _
 exact d9 rfl⟩
instance b2A {c k:Bs}{p:Int}{f:Bool}{l:List Sta}{xs:List AV}{id:Option Value}[hx:Stas xs l]:Ans prog GL 412 [.agg 5 [str c,str k,int p,j3 f,.sl 34 xs id]] True (D7 (dF l)):=⟨fun _=>by
 have h:=hx.out;subst h;have hm:(l.map D7).length=l.length:=llm _;refine qF func412 ntmps412 fun _ hs=>?_;refine GV 0 4 (fun hb=>?_);have hb:=tL hb;repeat' first|refine Vz ?_|intro _
 refine o8 (fun h1=>?_) (fun h1=>?_)
 ·repeat' first|refine Vz ?_|intro _
  refine d9 ?_;obtain rfl:l=[]:=List.eq_nil_of_length_eq_zero om;rfl
 ·repeat' first|refine Vz ?_|intro _
  refine Z5 (l:=l) (f:=D7) (l.length-1) om ?_;repeat' first|refine Vz ?_|intro _
  refine d9 ?_;rw[dF,List.getLastD_eq_getLast?,List.getLast?_eq_getElem?,List.getElem?_eq_getElem om];rfl⟩
instance c1Y {c k:Bs}{p:Int}{f:Bool}{l:List Sta}{xs:List AV}{id:Option Value}{now:Int}[Stas xs l]:Ans prog GL 265 [.agg 5 [str c,str k,int p,j3 f,.sl 34 xs id],int now] (-4611686018427387904<=(dF l).t/\(dF l).t<=4611686018427387904/\-4611686018427387904<=p/\p<4611686018427387904) (j3 (jM ⟨c,k,p,f,l⟩ now)):=⟨fun hp=>by
 obtain⟨h1,h2,h3,h4⟩:=hp;refine qF func265 ntmps265 fun _ hs=>?_;cases f
 all_goals
  repeat' first|refine Vz ?_|intro _
  refine d9 ?_;simp[J6,jM]⟩
instance b3e {c k:Bs}{p:Int}{f:Bool}{l:List Sta}{xs:List AV}{id:Option Value}{now:Int}[Stas xs l]:Ans prog GL 437 [.agg 5 [str c,str k,int p,j3 f,.sl 34 xs id],int now] (-4611686018427387904<=(dF l).t/\(dF l).t<=4611686018427387904/\-4611686018427387904<=p/\p<4611686018427387904) (j3 (jM ⟨c,k,p,f,l⟩ now)):=⟨fun hp=>by
 obtain⟨h1,h2,h3,h4⟩:=hp;refine qF func437 ntmps437 fun _ hs=>?_;cases f
 all_goals
  repeat' first|refine Vz ?_|intro _
  refine d9 ?_;simp[J6,jM]⟩

theorem a3f {xs:List AV}{id:Option Value}(hx:xs.length<=1073741824):Av.Spec prog GL 343 [.sl 34 xs id] [] (OwnK 93 34 xs):=by
 refine qF func343 ntmps343 fun _ hs=>?_;repeat' first|refine Wz ?_|intro _
 refine VC (fun q c hq hc=>?_);repeat' first|refine Wz ?_|intro _
 injection hc with hc
 subst hc;refine qP (fun h=>?_) (fun h=>?_)
 ·repeat' first|refine Wz ?_|intro _
  exact l9 [] (.inl ⟨hq h,rfl,rfl⟩) (List.nil_sublist _)
 ·repeat' first|refine Wz ?_|intro _
  refine VJ (fun g=>?_);repeat' first|refine Wz ?_|intro _
  refine BV (fun g' c' hc'=>?_);repeat' first|refine Wz ?_|intro _
  refine l9 [.buf g' 93 34 ([]++xs) c'] (.inr ⟨g',c',?_,rfl,?_⟩) slr
  ·simp[J6]
  ·simpa using hc'
theorem a0c {α:Type}{xs:List α}{i:Nat}{x:α}{p q:Nat}(h:i<=xs.length)(hp:p=xs.length-i)(hq:1<=q):over (over xs (i+1) ((xs.drop i).take p)) i ([x].take q)=xs.take i++x::xs.drop i:=Eh h hp hq
theorem Zy {α:Type}{xs:List α}{i q:Nat}{x z:α}{p r:Nat}(h:i<=xs.length)(hq:i+q=xs.length+1)(hp:p=q-1)(hr:1<=r):over (over (xs.take i++List.replicate q z) i ([x].take r)) (i+1) ((xs.drop i).take p)=xs.take i++x::xs.drop i:=Eg h hq hp hr
theorem Zu {x:AV}{idv:Option Value}:Av.Spec prog GL 342 [A7,int 0,.sl 34 [x] idv] [] (OwnK 93 34 [x]):=by
 refine qF func342 ntmps342 fun _ hs=>?_;repeat' first|refine Wz ?_|intro _
 refine GD 0 0 ?_;repeat' first|refine Wz ?_|intro _
 refine VL (fun g' c' hc'=>?_);repeat' first|refine Wz ?_|intro _
 exact l9 [.buf g' 93 34 [x] c'] (.inr ⟨g',c',rfl,rfl,hc'⟩) sm
theorem Zt {g n c i:Nat}{xs:List AV}{x:AV}{idv:Option Value}(hn:xs.length=n)(hc:n<=c)(hi:i<=n)(hb:n<=1073741824):Av.Spec prog GL 342 [.lit (.slice (some ⟨g,0,none⟩) n c),int i,.sl 34 [x] idv] [.buf g 93 34 xs c] (OwnK 93 34 (xs.take i++x::xs.drop i)):=by
 subst hn;have hx1:([x]:List AV).length=1:=rfl;refine qF func342 ntmps342 fun _ hs=>?_;repeat' first|refine Wz ?_|intro _
 refine GD i xs.length ?_;repeat' first|refine Wz ?_|intro _
 refine o8 (fun hin=>?_) (fun hin=>?_)
 ·repeat' first|refine Wz ?_|intro _
  refine BV (fun g' c' hc'=>?_);repeat' first|refine Wz ?_|intro _
  have hin':i=xs.length:=om
  subst hin';refine l9 [.buf g' 93 34 (xs++[x]) c'] (.inr ⟨g',c',?_,?_,?_⟩) sm
  ·simp[J6]
  ·simp
  ·simpa using hc'
 ·repeat' first|refine Wz ?_|intro _
  have hl:(xs.take i++x::xs.drop i).length=xs.length+1:=by simp;omega
  refine o8 (fun hcap=>?_) (fun hcap=>?_)
  ·obtain⟨q,hq⟩:∃ q,i+q=xs.length+1:=⟨xs.length+1-i,om⟩;repeat' first|refine Wz ?_|intro _
   refine iE 0 i ?_;repeat' first|refine Wz ?_|intro _
   refine Np (i:=i) q (fun g' c' hc'=>?_);repeat' first|refine Wz ?_|intro _
   refine iE i (i+q) ?_;repeat' first|refine Wz ?_|intro _
   refine Nf (j:=i) ?_;repeat' first|refine Wz ?_|intro _
   apply x8 [];exact rfl;exact rfl;kernel_rfl;intro _ _;refine iE (i+1) (i+q) ?_;exact j4 (o9 rfl rfl);repeat' first|refine Wz ?_|intro _
   apply x8 [];exact rfl;exact rfl;kernel_rfl;intro _ _;refine iE i xs.length ?_;exact j4 (o9 rfl rfl);apply kC [0,1];exact rfl;exact rfl;kernel_rfl;intro _ _;refine BS (j:=i+1) (j2:=i) ?_;exact j4 (o9 rfl rfl);exact rfl;exact rfl;repeat' first|refine Wz ?_|intro _
   rw[Zy om hq om om];refine l9 [.buf g' 93 34 _ c'] (.inr ⟨g',c',?_,rfl,?_⟩) (List.singleton_sublist.2 List.mem_cons_self)
   ·rw[hl,<- hq];rfl
   ·omega
  ·repeat' first|refine Wz ?_|intro _
   refine iE 0 (xs.length+1) ?_;repeat' first|refine Wz ?_|intro _
   refine iE (i+1) (xs.length+1) ?_;apply GI (v:=j3 false) func386;kernel_rfl;exact rfl;kernel_rfl;kernel_rfl;exact rfl;exact rfl;exact rfl
   ·intro ok w cs hS hv;exact⟨_,Vv (b:=48) (tS:=87) 4 hS List.mem_cons_self hv,RVl rfl⟩
   repeat' first|refine Wz ?_|intro _
   apply x8 [];exact rfl;exact rfl;kernel_rfl;intro _ _;refine iE (i+1) (xs.length+1) ?_;exact j4 (o9 rfl rfl);repeat' first|refine Wz ?_|intro _
   apply x8 [];exact rfl;exact rfl;kernel_rfl;intro _ _;refine iE i (xs.length+1) ?_;exact j4 (o9 rfl rfl);apply kC [0];exact rfl;exact rfl;kernel_rfl;intro _ _;refine BS (j:=i+1) (j2:=i) ?_;exact j4 (o9 rfl rfl);exact rfl;exact rfl;repeat' first|refine Wz ?_|intro _
   refine iE i (xs.length+1) ?_;repeat' first|refine Wz ?_|intro _
   refine Nf (j:=i) ?_;repeat' first|refine Wz ?_|intro _
   rw[a0c om om om];refine l9 [.buf g 93 34 _ c] (.inr ⟨g,c,?_,rfl,?_⟩) sm
   ·rw[hl];rfl
   ·omega

theorem at1 {h t:Int}{r:Hsh}{g:Nat}{T:TypeId}{n:Int}:Av.Spec prog GL 385 [.agg 34 [int h,int t,hA r],ptr g] [.var g T (int n)] fun u m=>u=j3 (decide (n<=h))/\m=[.var g T (int n)]:=by
 refine qF func385 ntmps385 fun _ hs=>?_;repeat' first|refine Vz ?_|intro _
 exact l9 [.var g T (int n)] ⟨rfl,rfl⟩ (List.sublist_cons_self _ _)
theorem a4l {l:List Sta}{h:Int}{i:Nat}(hi:i<l.length)(hb:∀ j,(hj:j<i)->¬ h<=(l[j]'(by omega)).h)(hh:h<=l[i].h):F9 l h=i:=by
 unfold F9;rw[List.findIdx_eq hi];exact⟨by simpa using hh,fun j hj=>by simpa using hb j hj⟩
theorem a4m {l:List Sta}{h:Int}(hb:∀ j,(hj:j<l.length)->¬ h<=l[j].h):F9 l h=l.length:=by
 unfold F9;rw[List.findIdx_eq_length];intro x hx;obtain⟨j,hj,rfl⟩:=List.getElem_of_mem hx;simpa using hb j hj
theorem index_spec {l:List Sta}{xs:List AV}{id:Option Value}[hx:Stas xs l]{g:Nat}{T:TypeId}{n:Int}:Av.Spec prog GL 384 [.sl 34 xs id,F4 385 [.pointer (some ⟨g,0,none⟩)]] [.var g T (int n)] fun u m=>u=int (if F9 l n<l.length then (F9 l n:Int) else -1)/\m=[.var g T (int n)]:=by
 have h:=hx.out;subst h;have hm:(l.map D7).length=l.length:=llm _;refine qF func384 ntmps384 fun _ hs=>?_;refine CK 0 (fun hb=>?_);have hb:=tL hb;repeat' first|refine Vz ?_|intro _
 refine y5 (α:=Nat) (fun i=>[(0,.sl 34 (l.map D7) id),(1,F4 385 [.pointer (some ⟨g,0,none⟩)]),(7,int (l.map D7).length),(8,int i)]) (fun i=>[.var g T (int n)])
  (fun i=>i<=l.length/\∀ j,(hj:j<l.length)->j<i->¬ n<=l[j].h) (fun i=>l.length-i) 0 ⟨rfl,rfl,rfl,rfl,trivial⟩ slr ⟨Nat.zero_le _,fun _ _ h=>absurd h om⟩ ?_
 rintro i ⟨hi,hall⟩;repeat' first|refine Vz ?_|intro _
 refine o8 (fun hlt=>?_) (fun hlt=>?_)
 ·have hil:i<l.length:=om
  repeat' first|refine Vz ?_|intro _
  refine nT (args:=[D7 l[i]]) (cs:=[.pointer (some ⟨g,0,none⟩)]) [.var g T (int n)] _ (by rw[hs];exact at1) (fun u m1 hh=>?_) lpr;obtain⟨rfl,rfl⟩:=hh;repeat' first|refine Vz ?_|intro _
  refine o8 (fun hh=>?_) (fun hh=>?_)
  ·repeat' first|refine Vz ?_|intro _
   refine l9 [.var g T (int n)] ⟨?_,rfl⟩ slr;rw[a4l hil (fun j hj=>hall j om hj) hh,if_pos hil];rfl
  ·repeat' first|refine Vz ?_|intro _
   refine o6 (i+1) ⟨rfl,rfl,rfl,rfl,trivial⟩ slr ⟨hil,fun j hj h=>?_⟩ om;rcases Nat.lt_or_ge j i with h2|h2
   ·exact hall j hj h2
   ·obtain rfl:j=i:=by omega
    exact hh
 ·obtain rfl:i=l.length:=by omega
  repeat' first|refine Vz ?_|intro _
  refine l9 [.var g T (int n)] ⟨?_,rfl⟩ slr;rw[a4m (fun j hj=>hall j hj hj),if_neg om];rfl
theorem a4k {l:List Sta}{h:Int}(hl:F9 l h<l.length):bE l h=decide (l[F9 l h].h=h):=by
 unfold bE;rw[List.getD,List.getElem?_eq_getElem hl];simp[hl]
theorem UZ {l:List Sta}{h:Int}(hl:¬ F9 l h<l.length):bE l h=false:=by
 unfold bE;simp[hl]
instance b5F {c k:Bs}{p:Int}{f:Bool}{l:List Sta}{xs:List AV}{id:Option Value}{n:Int}[hx:Stas xs l]:Ans prog GL 341 [.agg 5 [str c,str k,int p,j3 f,.sl 34 xs id],int n] True (.tup [int (F9 l n),j3 (bE l n)]):=⟨fun _=>by
 have h:=hx.out;subst h;have hm:(l.map D7).length=l.length:=llm _;have hle:=GA l n;refine qF func341 ntmps341 fun _ hs=>?_;refine GV 0 4 (fun hb=>?_);have hb:=tL hb;repeat' first|refine Vz ?_|intro _
 rename_i g2 g3;refine gH (vs:=[.pointer (some ⟨g3,0,none⟩)]) ?_;repeat' first|refine Vz ?_|intro _
 refine I8 [.var g3 3 (int n)] _ (by rw[hs];exact index_spec (l:=l) (xs:=l.map D7) (id:=id)) (fun u m1 hh=>?_) lpr;obtain⟨rfl,rfl⟩:=hh;by_cases hl:F9 l n<l.length
 ·rw[if_pos hl,a4k hl];repeat' first|refine Vz ?_|intro _
  exact d9 rfl
 ·rw[if_neg hl,UZ hl];obtain hl:F9 l n=l.length:=by omega
  rw[hl];repeat' first|refine Vz ?_|intro _
  refine d9 ?_;rw[hm];rfl⟩
instance b5D {c k:Bs}{p:Int}{f:Bool}{l:List Sta}{xs:List AV}{id:Option Value}{n:Int}[hx:Stas xs l]:Ans prog GL 355 [.agg 5 [str c,str k,int p,j3 f,.sl 34 xs id],int n] True (.tup [D7 ((rY l n).getD Q7),j3 (rY l n).isSome]):=⟨fun _=>by
 have h:=hx.out;subst h;have hm:(l.map D7).length=l.length:=llm _;refine qF func355 ntmps355 fun _ hs=>?_;cases hi:bE l n
 all_goals
  unfold rY;rw[hi];repeat' first|refine Vz ?_|intro _
  rw[hi];repeat' first|refine Vz ?_|intro _
 focus
  exact d9 rfl
 have hl:F9 l n<l.length:=by
  rcases Nat.lt_or_ge (F9 l n) l.length with h|h
  ·exact h
  ·rw[UZ om] at hi;cases hi
 repeat' first|refine Vz ?_|intro _
 refine d9 ?_;rw[List.getD,List.getElem?_eq_getElem hl];rfl⟩
theorem a1V {l:List Sta}{h:Int}{i:Nat}(hi:i<l.length)(hb:∀ j,(hj:j<i)->¬ (l[j]'(by omega)).h=h)(hh:l[i].h=h):rX l h=some l[i]:=by
 unfold rX;rw[List.find?_eq_some_iff_getElem];exact⟨by simpa using hh,i,hi,rfl,fun j hj=>by simpa using hb j hj⟩
theorem a1W {l:List Sta}{h:Int}(hb:∀ j,(hj:j<l.length)->¬ l[j].h=h):rX l h=none:=by
 unfold rX;rw[List.find?_eq_none];intro x hx;obtain⟨j,hj,rfl⟩:=List.getElem_of_mem hx;simpa using hb j hj
instance b2J {c k:Bs}{p:Int}{f:Bool}{l:List Sta}{xs:List AV}{id:Option Value}{n:Int}[hx:Stas xs l]:Ans prog GL 439 [.agg 5 [str c,str k,int p,j3 f,.sl 34 xs id],int n] True (.tup [D7 ((rX l n).getD Q7),j3 (rX l n).isSome]):=⟨fun _=>by
 have h:=hx.out;subst h;have hm:(l.map D7).length=l.length:=llm _;refine qF func439 ntmps439 fun _ hs=>?_;refine GV 0 4 (fun hb=>?_);have hb:=tL hb;repeat' first|refine Vz ?_|intro _
 rename_i g2 g4;refine y5 (α:=Nat) (fun i=>[(1,int n),(2,ptr g2),(4,ptr g4),(6,int i)]) (fun i=>[.var g4 93 (D7 Q7),.var g2 89 (.agg 5 [str c,str k,int p,j3 f,.sl 34 (l.map D7) id])])
  (fun i=>i<=l.length/\∀ j,(hj:j<l.length)->j<i->¬ l[j].h=n) (fun i=>l.length-i) 0 ⟨rfl,rfl,rfl,rfl,trivial⟩ slr ⟨Nat.zero_le _,fun _ _ h=>absurd h om⟩ ?_
 rintro i ⟨hi,hall⟩;repeat' first|refine Vz ?_|intro _
 refine o8 (fun hlt=>?_) (fun hlt=>?_)
 ·have hil:i<l.length:=om
  repeat' first|refine Vz ?_|intro _
  refine o8 (fun hh=>?_) (fun hh=>?_)
  ·repeat' first|refine Vz ?_|intro _
   refine d9 ?_;rw[a1V hil (fun j hj=>hall j om hj) hh];rfl
  ·repeat' first|refine Vz ?_|intro _
   refine o6 (i+1) ⟨rfl,rfl,rfl,rfl,trivial⟩ slr ⟨hil,fun j hj h=>?_⟩ om;rcases Nat.lt_or_ge j i with h2|h2
   ·exact hall j hj h2
   ·obtain rfl:j=i:=by omega
    exact hh
 ·obtain rfl:i=l.length:=by omega
  repeat' first|refine Vz ?_|intro _
  refine d9 ?_;rw[a1W (fun j hj=>hall j hj hj)];rfl⟩

theorem Mf {n:Nat}{p:Nat->Bool}:(List.range n).all p=true↔∀ j,j<n->p j=true:=by simp
theorem Cv {x:Cli}(h:¬ (x.k.length<=64/\1<=x.p/\x.p<=1099511627776/\1<=x.l.length/\x.l.length<=32)):V6 x=false:=by
 unfold V6;simp only[h,decide_false,Bool.false_and]
theorem zY {x:Cli}{i:Nat}(hi:i<x.l.length)(h:kX x.c x.l i=false):V6 x=false:=by
 unfold V6;rw[Bool.and_eq_false_iff];refine .inr (Bool.eq_false_iff.2 fun hh=>?_);have:=Mf.1 hh i hi;rw[h] at this;cases this
theorem Cu {x:Cli}(h:x.k.length<=64/\1<=x.p/\x.p<=1099511627776/\1<=x.l.length/\x.l.length<=32)(ha:∀ j,j<x.l.length->kX x.c x.l j=true):V6 x=true:=by
 unfold V6;simp only[h,decide_true,Bool.true_and,Mf.2 ha,and_self]
theorem RL {c:Bs}{l:List Sta}{i:Nat}(hi:i<l.length):kX c l i=(Q4 ⟨c,l[i].h,l[i].t,l[i].r⟩&&(decide (i=0) || Y2 (l.getD (i-1) Q7) l[i])):=by
 have hg:l.getD i Q7=l[i]:=by simp[List.getD,hi]
 unfold kX;rw[hg];rfl
set_option maxHeartbeats 1000000 in
instance b4m {c k:Bs}{p:Int}{f:Bool}{l:List Sta}{xs:List AV}{id:Option Value}[hx:Stas xs l]:Ans prog GL 160 [.agg 5 [str c,str k,int p,j3 f,.sl 34 xs id]] True (j3 (V6 ⟨c,k,p,f,l⟩)):=⟨fun _=>by
 have h:=hx.out;subst h;have hm:(l.map D7).length=l.length:=llm _;refine qF func160 ntmps160 fun _ hs=>?_;refine GV 0 4 (fun hb=>?_);have hb:=tL hb;by_cases hok:k.length<=64/\1<=p/\p<=1099511627776/\1<=l.length/\l.length<=32
 ·obtain⟨h1,h2,h3,h4,h5⟩:=hok;repeat' first|refine Zz ?_|intro _
  rename_i g1;refine y5 (α:=Nat) (fun i=>[(1,ptr g1),(3,j3 true),(33,.sl 34 (l.map D7) id),(34,int (l.map D7).length),(35,int i)]) (fun i=>[.var g1 89 (.agg 5 [str c,str k,int p,j3 f,.sl 34 (l.map D7) id])])
   (fun i=>i<=l.length/\∀ j,j<i->kX c l j=true) (fun i=>l.length-i) 0 ⟨rfl,rfl,rfl,rfl,rfl,trivial⟩ slr ⟨Nat.zero_le _,fun _ h=>absurd h om⟩ ?_
  rintro i ⟨hi,hall⟩;repeat' first|refine Vz ?_|intro _
  refine o8 (fun hlt=>?_) (fun hlt=>?_)
  ·have hil:i<l.length:=om
   have hat:=RL (c:=c) hil;repeat' first|refine Vz ?_|intro _
   cases hc:Q4 ⟨c,l[i].h,l[i].t,l[i].r⟩
   ·rw[hc,Bool.false_and] at hat;repeat' first|refine Vz ?_|intro _
    refine d9 ?_;rw[zY (x:=⟨c,k,p,f,l⟩) hil hat];rfl
   rw[hc,Bool.true_and] at hat;rcases i with _|i
   ·have h0:∀ j,j<1->kX c l j=true:=fun j hj=>by
     obtain rfl:j=0:=by omega
     rw[hat];rfl
    repeat' first|refine Vz ?_|intro _
    refine o6 1 ⟨rfl,rfl,rfl,rfl,rfl,trivial⟩ ?_ ⟨hil,h0⟩ om;exact x9
   ·have hil2:i<l.length:=om
    have hg2:l.getD (i+1-1) Q7=l[i]:=by simp[List.getD,hil2]
    rw[hg2,dZ om,Bool.false_or] at hat;repeat' first|refine Vz ?_|intro _
    rw[dZ (show ¬ (((i+1:Nat):Int)=0) by omega)];repeat' first|refine Vz ?_|intro _
    rw[show (((i+1:Nat):Int)-1)=(i:Int) by omega];cases hf:Y2 l[i] l[i+1]
    ·rw[hf] at hat;repeat' first|refine Vz ?_|intro _
     rw[hf];repeat' first|refine Vz ?_|intro _
     refine d9 ?_;rw[zY (x:=⟨c,k,p,f,l⟩) hil hat];rfl
    ·rw[hf] at hat;repeat' first|refine Vz ?_|intro _
     rw[hf];repeat' first|refine Vz ?_|intro _
     refine o6 (i+2) ⟨rfl,rfl,rfl,rfl,rfl,trivial⟩ ?_ ⟨hil,fun j hj=>?_⟩ om
     ·exact x9
     rcases Nat.lt_or_ge j (i+1) with h6|h6
     ·exact hall j h6
     ·obtain rfl:j=i+1:=by omega
      exact hat
  ·obtain rfl:i=l.length:=by omega
   repeat' first|refine Vz ?_|intro _
   refine d9 ?_;rw[Cu ⟨h1,h2,h3,h4,h5⟩ hall];rfl
 ·rw[Cv hok];repeat' first|refine Vz ?_|intro _
  refine Y9 (fun h=>?_) (fun h6=>?_)
  ·repeat' first|refine Vz ?_|intro _
   exact d9 rfl
  repeat' first|refine Vz ?_|intro _
  refine Y9 (fun h=>?_) (fun h7=>?_)
  ·repeat' first|refine Vz ?_|intro _
   exact d9 rfl
  repeat' first|refine Vz ?_|intro _
  refine Y9 (fun h=>?_) (fun h8=>?_)
  ·repeat' first|refine Vz ?_|intro _
   exact d9 rfl
  repeat' first|refine Vz ?_|intro _
  refine Y9 (fun h=>?_) (fun h9=>?_)
  ·repeat' first|refine Vz ?_|intro _
   exact d9 rfl
  repeat' first|refine Vz ?_|intro _
  refine sD ?_;repeat' first|refine Vz ?_|intro _
  exact d9 rfl⟩
end Go.Proofs.YtjhnaegpchadiaaGreatDoor
