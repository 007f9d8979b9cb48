/- . -/
import Derived.Test.YtocpacdnjbjjmaaGreatDoorS31
namespace Go.Proofs.YtocpacdnjbjjmaaGreatDoor
open Go Go.RowKit Tw Av
structure PG (p:Prf):Prop where
 a:0<=p.a/\p.a<=2000
 m:0<=p.m/\p.m<=2000
 l:p.p.length<=16
theorem UI (h:Hsh):R4 h.l=h:=by
 unfold R4;rw[dif_pos h.len]
theorem a2j (l:List Hsh):(l.map fun h=>h.l).map R4=l:=by
 rw[List.map_map]
 conv=>rhs;rw[<- List.map_id l]
 exact List.map_congr_left fun h _=>UI h
theorem Be {p:Prf}(h:PG p)(r:Bs):oW (Y2 p++r)=p.p.map (fun h=>h.l)/\xE (Y2 p++r)=(if r=[] then 0 else 10)/\ER (Y2 p++r)=p:=by
 obtain⟨⟨h1,h2⟩,⟨h3,h4⟩,h5⟩:=h;have hB:Y2 p++r=D8 105 p.a++(D8 109 p.m++(O7 112 (p.p.map fun h=>h.l)++r)):=by
  unfold Y2;simp only[List.append_assoc]
 have hall:∀ s∈p.p.map (fun h=>h.l),(s.length:Int)<=32/\s.length<=16777215:=fun s hs=>by
  obtain⟨q,_,rfl⟩:=List.mem_map.1 hs;rw[q.len];decide
 obtain⟨a1,a2,a3⟩:=xJ (c:=105) (most:=2000) (n:=p.a) (r:=D8 109 p.m++(O7 112 (p.p.map fun h=>h.l)++r)) dc dc h1 h2 dc;obtain⟨b1,b2,b3⟩:=xJ (c:=109) (most:=2000) (n:=p.m) (r:=O7 112 (p.p.map fun h=>h.l)++r) dc dc h3 h4 dc;obtain⟨d1,d2,d3⟩:=RO (c:=112) (many:=16) (most:=32) (l:=p.p.map fun h=>h.l) (r:=r) dc dc (by rw[llm];omega) hall (by
  have:=GR (c:=112) (n:=32) (l:=p.p.map fun h=>h.l) (fun s hs=>by have:=hall s hs;omega) dc;rw[llm] at this;omega)
 have s1:iX (Y2 p++r)=D8 109 p.m++(O7 112 (p.p.map fun h=>h.l)++r):=by unfold iX;rw[hB,a2]
 have t1:mQ (Y2 p++r)=false:=by unfold mQ;rw[hB,a3]
 have s2:eH (Y2 p++r)=O7 112 (p.p.map fun h=>h.l)++r:=by unfold eH;rw[s1,t1,b2]
 have t2:iC (Y2 p++r)=false:=by unfold iC;rw[s1,t1,b3]
 have hL:oW (Y2 p++r)=p.p.map (fun h=>h.l):=by unfold oW;rw[s2,t2,d1]
 refine⟨hL,?_,?_⟩
 ·unfold xE;rw[s2,t2,d2,d3];unfold P5;by_cases hr:r=[]
  ·simp[hr]
  ·simp[hr]
 ·unfold ER;rw[hL,a2j,s1,t1,b1,hB,a1]
theorem Zv (p:Prf):(p.p.map fun h=>h.l).all jD=true:=by
 rw[List.all_eq_true];intro s hs;obtain⟨q,_,rfl⟩:=List.mem_map.1 hs;exact dT q.len
theorem QU {p:Prf}(h:PG p):fF (Y2 p)=p/\bT (Y2 p)=0/\bT (Y2 p++[120])=10:=by
 obtain⟨a1,a2,a3⟩:=Be h [];obtain⟨b1,b2,b3⟩:=Be h [120];rw[List.append_nil] at a1 a2 a3;have hk:iY (Y2 p)=true:=by
  unfold iY;rw[a1,a2,Zv];rfl
 have hk2:iY (Y2 p++[120])=false:=by
  unfold iY;rw[b2,Bool.and_eq_false_iff];exact .inr rfl
 unfold fF bT;rw[if_pos hk,if_pos hk,hk2,a3];exact⟨rfl,rfl,rfl⟩
theorem Dw {p:Prf}(h:PG p):(Y2 p).length<=4000:=by
 have h1:(digits p.a.toNat).length<=8:=IB 8 _;have h2:(digits p.m.toNat).length<=8:=IB 8 _;have h3:=h.l;have hall:∀ s∈p.p.map (fun h=>h.l),s.length<=32:=fun s hs=>by
  obtain⟨q,_,rfl⟩:=List.mem_map.1 hs;rw[q.len];exact Nat.le_refl _
 have h4:=GR (c:=112) (n:=32) hall dc;rw[llm] at h4;have e:Y2 p=o8 105 (digits p.a.toNat)++o8 109 (digits p.m.toNat)++o8 112 ((p.p.map fun h=>h.l).flatMap (o8 112)):=rfl;rw[e,wU om,wU om,wU om];simp only[List.length_append,List.length_cons];omega
structure SG (l:List Ent)(p:Prf):Prop where
 n:l.length<=1
 f:∀ x∈l,x.key.length<=4000/\x.val.length<=4000
 p:PG p
theorem Aa {l:List Ent}{p:Prf}{r:Bs}(h:SG l p):fD (Z4 l p++r) false=true/\oU (Z4 l p++r) false=l/\kV (Z4 l p++r) false=p/\jU (Z4 l p++r) false=r/\fE (Z4 l p++r) false=false:=by
 have hB:Z4 l p++r=O7 101 (fT l)++(o8 80 (Y2 p)++r):=by
  unfold Z4;simp only[List.append_assoc]
 have hsT:(fT l).length<=2:=by rw[JW];have:=h.n;omega
 have hall:∀ s∈fT l,s.length<=4000:=fun s hs=>by
  unfold fT at hs;obtain⟨x,hx,hs⟩:=List.mem_flatMap.1 hs;have:=h.f x hx;simp only[List.mem_cons,List.not_mem_nil,or_false] at hs;rcases hs with rfl|rfl
  ·exact this.1
  ·exact this.2
 have hps:=Dw h.p;obtain⟨a1,a2,a3⟩:=RO (c:=101) (many:=2) (most:=4000) (l:=fT l) (r:=o8 80 (Y2 p)++r) dc dc om (fun s hs=>by have:=hall s hs;omega) (by
  have:=GR (c:=101) hall dc;omega)
 obtain⟨b1,b2,b3⟩:=xI (c:=80) (most:=4000) (s:=Y2 p) (r:=r) dc dc om om;have s1:jV (Z4 l p++r) false=o8 80 (Y2 p)++r:=by unfold jV;rw[hB,a2]
 have t1:mP (Z4 l p++r) false=false:=by unfold mP;rw[hB,a3]
 have hX:qJ (Z4 l p++r) false=fT l:=by unfold qJ;rw[hB,a1]
 have hT:mO (Z4 l p++r) false=Y2 p:=by unfold mO;rw[s1,t1,b1]
 have hS:jU (Z4 l p++r) false=r:=by unfold jU;rw[s1,t1,b2]
 have hb:fE (Z4 l p++r) false=false:=by unfold fE;rw[s1,t1,b3]
 obtain⟨q1,q2,_⟩:=QU h.p;have hne:(fT l).length≠1:=by rw[JW];omega
 have hk:fD (Z4 l p++r) false=true:=by
  unfold fD;rw[hT,hb,hX,q2,dT hne];rfl
 refine⟨hk,?_,?_,hS,hb⟩
 ·unfold oU;rw[if_pos hk,hX];have hn:=h.n;rcases l with _|⟨x,_|⟨y,l⟩⟩
  ·rfl
  ·rfl
  ·simp at hn
 ·unfold kV;rw[if_pos hk,hT,q1]
structure GG (g:Gp):Prop where
 n:0<=g.n/\g.n<=2000
 a:SG g.l g.a
 b:SG g.r g.b
theorem Bu {g:Gp}(h:GG g):kC (jL g)=g/\jA (jL g)=0:=by
 have hB:jL g=D8 109 g.n++(Z4 g.l g.a++(Z4 g.r g.b++[])):=by
  unfold jL;simp only[List.append_assoc,List.append_nil]
 obtain⟨a1,a2,a3⟩:=xJ (c:=109) (most:=2000) (n:=g.n) (r:=Z4 g.l g.a++(Z4 g.r g.b++[])) dc dc h.n.1 h.n.2 dc;obtain⟨b1,b2,b3,b4,b5⟩:=Aa (r:=Z4 g.r g.b++[]) h.a;obtain⟨d1,d2,d3,d4,d5⟩:=Aa (r:=[]) h.b;have s1:O9 (jL g)=Z4 g.l g.a++(Z4 g.r g.b++[]):=by unfold O9;rw[hB,a2]
 have t1:Z5 (jL g)=false:=by unfold Z5;rw[hB,a3]
 have s2:N8 (jL g)=Z4 g.r g.b++[]:=by unfold N8;rw[s1,t1,b4]
 have t2:R8 (jL g)=false:=by unfold R8;rw[s1,t1,b5]
 have hE:xG (jL g)=0:=by unfold xG;rw[s2,t2,d4,d5];rfl
 have hV:EW (jL g)=g:=by
  unfold EW;rw[s1,t1,s2,t2,b2,b3,d2,d3,hB,a1]
 have hk:zX (jL g)=true:=by
  unfold zX;rw[s1,t1,s2,t2,b1,d1,hE];rfl
 unfold kC jA;rw[if_pos hk,if_pos hk,hV];exact⟨rfl,rfl⟩
theorem PH:PG lZ:=⟨dc,dc,dc⟩
end Go.Proofs.YtocpacdnjbjjmaaGreatDoor

namespace Go.Proofs.YtocpacdnjbjjmaaGreatDoor
open Go Go.RowKit Tw Av Go.Proofs.Tryz
def lK (x:H8)(buf:Bs)(n:Nat):AV:=.agg 74 ((M8 x buf n).map fun v=>.lit (id v))
theorem a3w {x:H8}{buf:Bs}{n:Nat}(hb:buf.length=64):(M8 x buf n).length=74:=GH _ _ _ rfl hb
theorem Hw {ok:Ok}{w:World}{x:H8}{buf:Bs}{n:Nat}(hb:buf.length=64):RC ok w (lK x buf n) (M8 x buf n):=by
 unfold lK;rw[RC];refine⟨a3w hb,?_⟩;have h1:∀ v∈M8 x buf n,v.oneCell'=true:=fun v hv=>GI x.words buf n v (by rw[(dC _ _ _).fl];exact hv);generalize M8 x buf n=l at h1
 induction l with
 | nil=>rw[List.map_nil,RCs]
 | cons a l ih=>
  rw[List.map_cons,RCs];exact⟨[a],l,rfl,by rw[RC];exact⟨rfl,h1 a sm⟩,ih fun v hv=>h1 v (by simp[hv])⟩
theorem Hy {ok:Ok}{w:World}{x:H8}{buf:Bs}{n:Nat}{cs:List Value}(h:RC ok w (lK x buf n) cs):cs=fl (M8 x buf n):=by
 unfold lK at h;rw[RC] at h;rw[(dC _ _ _).fl,AF h.2];simp
theorem pU:Av.Spec prog GL 234 [] [] fun u m'=>∃ g,u=ptr g/\m'=[.var g 350 (lK h0 (zeros 64) 0)]:=
 Yl (vs:=M8 h0 (zeros 64) 0) (fun ok w=>by rw[(dC _ _ _).fl];exact Hw rfl) fun ok w cargs hg hv=>by
  obtain rfl:=(show cargs=[] from hv);exact TA w (MX hg)
def Hashed (g:Nat)(M:Bs)(m:List Av.Piece):Prop:=∃ x buf,HS M x buf/\m=[.var g 350 (lK x buf M.length)]
theorem a3E {ok:Ok}{w:World}{g:Nat}(h:Glob GL ok w)(hn:∀ j,¬ ok g j):g≠0/\g≠2:=by
 refine⟨?_,?_⟩
 ·rintro rfl;obtain⟨cs,h1,h2⟩:=h _ (by unfold GL;exact List.mem_cons_self);rw[RC] at h2;have h3:=AF h2.2;subst h3;exact hn _ (h1 0 _ (by simp[H8.words];rfl)).2
 ·rintro rfl;obtain⟨cs,h1,h2⟩:=h (2,_) (by unfold GL;exact List.mem_cons_of_mem _ List.mem_cons_self);rw[RC] at h2;have h3:=AF h2.2;subst h3;exact hn _ (h1 0 _ (by simp[jI];rfl)).2
theorem Ht {g:Nat}{M s:Bs}{x:H8}{buf:Bs}(hH:HS M x buf)(hl:M.length+s.length<=4611686018427387904):Av.Spec prog GL 235 [ptr g,str s] [.var g 350 (lK x buf M.length)] fun u m'=>u=.tup []/\Hashed g (M++s) m':=by
 refine(Ym (R:=fun v=>∃ x' buf',HS (M++s) x' buf'/\v=lK x' buf' (M++s).length) (fun ok w cs h=>Hy h) fun ok w cargs hg hn hv hb=>?_).mono fun u m' hh=>?_
 ·obtain⟨u1,us,rfl,h1,rfl⟩:=hv;rw[RV0.lit h1];obtain⟨n1,n2⟩:=a3E hg hn;refine(PM w g M x buf s (MX hg) n1 n2 hb hH hl).mono fun v w' hh=>?_;obtain⟨e,x',buf',h2,h3⟩:=hh;exact⟨e,_,_,⟨x',buf',h2,rfl⟩,h3,fun ok w=>by rw[(dC _ _ _).fl];exact Hw h2.len⟩
 ·obtain⟨e,v',⟨x',buf',h2,rfl⟩,e2⟩:=hh;exact⟨e,x',buf',h2,e2⟩
theorem a3u {g:Nat}{M:Bs}{x:H8}{buf:Bs}(hH:HS M x buf)(hl:M.length<=1152921504606846976):Av.Spec prog GL 238 [ptr g] [.var g 350 (lK x buf M.length)] fun u m'=>u=hA (Y0 M)/\m'=[.var g 350 (lK x buf M.length)]:=
 Yn (fun ok w cs h=>Hy h) fun ok w cargs hg hv hb=>by
  obtain rfl:=(show cargs=[] from hv);exact(ZC w g M x buf (MX hg) hb hH hl).mono fun v w' hh=>⟨fun ok w=>by rw[hh.1];exact RV_hA _,hh.2⟩

theorem Gq (k:Bs):(kK k).length=64:=by rw[kK,VT];simp[zeros]
theorem a1z (a:Bs):sM [a]=Y0 a:=by simp[sM]
theorem a1y (a b:Bs):sM [a,b]=Y0 (a++b):=by simp[sM]
abbrev sQ (l:Bs):AV:=.agg 64 (l.map p9)
instance b4V {k:Bs}:Ans prog GL 233 [str k] (k.length<=1000000) (sQ (kK k)):=⟨fun hk=>by
 refine qE func233 rfl ntmps233 rfl (fun _ hs=>?_);repeat' first|refine Vz ?_|intro _
 refine o9 (fun h1=>?_) (fun h1=>?_)
 ·have:LenLe k 1000000:=⟨hk⟩;repeat' first|refine Vz ?_|intro _
  rw[a1z];refine OP (l:=zeros 64) (a:=(Y0 k).l) rfl ?_;repeat' first|refine Vz ?_|intro _
  refine d9 ?_;rw[kK,if_pos om];rfl
 ·repeat' first|refine Vz ?_|intro _
  refine OP (l:=zeros 64) (a:=k) rfl ?_;repeat' first|refine Vz ?_|intro _
  refine d9 ?_;rw[kK,if_neg om];rfl⟩
theorem a0R {g:Nat}{a b:UInt8}{T:TypeId}:Av.Spec prog GL 291 [p9 a,ptr g] [.var g T (p9 b)] fun u m=>u=p9 (a ^^^ b)/\m=[.var g T (p9 b)]:=by
 refine qE func291 rfl ntmps291 rfl (fun _ hs=>?_);repeat' first|refine Vz ?_|intro _
 exact o5 [.var g T (p9 b)] ⟨rfl,rfl⟩ slr
theorem Sk {l:Bs}{b:UInt8}{i:Nat}(h:i<l.length):(O6 b (l.take i)++l.drop i).set i (l[i] ^^^ b)=O6 b (l.take (i+1))++l.drop (i+1):=by
 have h1:(O6 b (l.take i)).length=i:=by simp[O6];omega
 rw[List.set_append,if_neg om,h1,Nat.sub_self,List.drop_eq_getElem_cons h,List.set_cons_zero,List.take_succ_eq_append_getElem h,O6,O6,List.map_append,laa];rfl
theorem ZG {l:Bs}(hl:l.length=64)(b:UInt8)(B:Int)(hB:B=b.toNat):SpecE prog GL 236 [sQ l,.lit (.int .u8 B)] (str (O6 b l)):=by
 subst hB;refine qE func236 rfl ntmps236 rfl (fun _ hs=>?_);repeat' first|refine Vz ?_|intro _
 rename_i g2 g3;refine eY (vs:=[.pointer (some ⟨g3,0,none⟩)]) ?_;repeat' first|refine Vz ?_|intro _
 refine z8 (α:=Nat) (fun i=>[(2,ptr g2),(5,D6 291 [.pointer (some ⟨g3,0,none⟩)]),(9,sQ l),(10,int i)])
  (fun i=>[.var g3 5 (p9 b),.var g2 226 (sQ (O6 b (l.take i)++l.drop i))]) (fun i=>i<=64) (fun i=>64-i) 0 ⟨rfl,rfl,rfl,rfl,trivial⟩ ?_ (Nat.zero_le _) ?_
 ·exact r9
 intro i hi;have hlen:(O6 b (l.take i)++l.drop i).length=64:=by simp[O6];omega
 repeat' first|refine Vz ?_|intro _
 refine o9 (fun hlt=>?_) (fun hlt=>?_)
 ·have hil:i<l.length:=om
  repeat' first|refine Vz ?_|intro _
  refine Qi (ps:=l.map p9) (u:=p9 l[i]) i ?_ rfl om (by simp[hil]) (by intro p hp;obtain⟨c,_,rfl⟩:=List.mem_map.1 hp;rfl) rfl;repeat' first|refine Vz ?_|intro _
  refine kP (args:=[p9 l[i]]) (cs:=[.pointer (some ⟨g3,0,none⟩)]) [.var g3 5 (p9 b)] _ (by rw[hs];exact a0R) (fun u m1 hh=>?_) lpr;obtain⟨rfl,rfl⟩:=hh;repeat' first|refine Vz ?_|intro _
  refine O8 i ?_;refine lU (j:=i) (ps:=(O6 b (l.take i)++l.drop i).map p9) (by simp only[List.length_map];omega) ?_;repeat' first|refine Vz ?_|intro _
  rw[show ((O6 b (l.take i)++l.drop i).map p9).set i (p9 (l[i] ^^^ b))=((O6 b (l.take i)++l.drop i).set i (l[i] ^^^ b)).map p9 by rw[List.map_set],Sk hil];refine o6 (i+1) ⟨rfl,rfl,rfl,rfl,trivial⟩ ?_ om om;exact r9
 ·obtain rfl:i=64:=by omega
  rw[List.take_of_length_le om,List.drop_of_length_le om,List.append_nil];repeat' first|refine Vz ?_|intro _
  refine d9 ?_;rfl
theorem ImpC.one {n:Nat}{ps:List AV}:ImpC (.agg n [.agg n ps]) (.agg n ps):=fun ok w cs h=>by
 rw[RC] at h;obtain⟨h1,h2⟩:=h;rw[RCs] at h2;obtain⟨c1,c2,rfl,h3,h4⟩:=h2;rw[RCs] at h4;subst h4
 rwa [List.append_nil]
theorem Yp {k:Bs}(hk:k.length<=1000000):Av.Spec prog GL 165 [str k] [] fun u m=>∃ g,u=ptr g/\m=[.var g 311 (sQ (kK k))]:=by
 refine qE func165 rfl ntmps165 rfl (fun _ hs=>?_);repeat' first|refine Vz ?_|intro _
 rename_i g;refine zA (g:=g) (v':=sQ (kK k)) ImpC.one ?_;exact o5 [.var g 311 (sQ (kK k))] ⟨g,rfl,rfl⟩ slr
theorem vE (b:UInt8)(l:Bs):(O6 b l).length=l.length:=llm _
theorem a4P {l:List Bs}{i:Nat}(h:i<l.length):(l.take (i+1)).flatten=(l.take i).flatten++l[i]:=by
 rw[List.take_succ_eq_append_getElem h,List.flatten_append];simp
theorem Ka {l:List Bs}(i:Nat):(l.take i).flatten.length<=l.flatten.length:=by
 have h:=congrArg (fun q=>(List.flatten q).length) (List.take_append_drop i l);simp only[List.flatten_append,List.length_append] at h;omega
theorem Yg {g:Nat}{kb:Bs}{l:List Bs}{id:Option Value}(hk:kb.length=64)(hl:l.flatten.length<=1000000000000)(hn:l.length<=1000000000000):Av.Spec prog GL 166 [ptr g,.sl 1 (l.map str) id] [.var g 311 (sQ kb)] fun u m=>u=hA (Y0 (O6 92 kb++(Y0 (O6 54 kb++l.flatten)).l))/\m=[]:=by
 have hlm:(l.map str).length=l.length:=llm _;refine qE func166 rfl ntmps166 rfl (fun _ hs=>?_);repeat' first|refine Vz ?_|intro _
 refine M3 [] _ (by rw[hs];exact pU) (fun u m1 hh=>?_) lpr;obtain⟨gh,rfl,rfl⟩:=hh;repeat' first|refine Vz ?_|intro _
 refine M3 [] _ (by rw[hs];exact ZG hk 54 54 rfl) (fun u m1 hh=>?_) lpr;obtain⟨rfl,rfl⟩:=hh;refine M3 [.var gh 350 (lK h0 (zeros 64) 0)] _ (by rw[hs];exact Ht (M:=[]) (s:=O6 54 kb) HS.nil (by simp[vE];omega)) (fun u m1 hh=>?_) lpr;obtain⟨rfl,x0,b0,hH0,rfl⟩:=hh;rw[List.nil_append] at hH0 ⊢;repeat' first|refine Vz ?_|intro _
 rename_i g4 g5;refine z8 (α:=Nat × H8 × Bs) (fun q=>[(4,ptr g4),(5,ptr g5),(6,ptr gh),(20,.sl 1 (l.map str) id),(21,int (l.map str).length),(22,int q.1)])
  (fun q=>[.var gh 350 (lK q.2.1 q.2.2 (O6 54 kb++(l.take q.1).flatten).length),.var g5 226 (sQ kb),.var g4 48 (hA J7)]) (fun q=>q.1<=l.length/\HS (O6 54 kb++(l.take q.1).flatten) q.2.1 q.2.2) (fun q=>l.length-q.1) (0,x0,b0) ⟨rfl,rfl,rfl,rfl,rfl,rfl,trivial⟩ ?_ ⟨Nat.zero_le _,by simpa using hH0⟩ ?_
 ·dsimp only;rw[List.take_zero,List.flatten_nil,List.append_nil];exact r9
 rintro⟨i,x,b⟩ ⟨hi,hH⟩;dsimp only at hi hH ⊢;repeat' first|refine Vz ?_|intro _
 have hle:=Ka (l:=l) i;refine o9 (fun hlt=>?_) (fun hlt=>?_)
 ·have hil:i<l.length:=om
  have hle2:=Ka (l:=l) (i+1);have hfn:=a4P hil;rw[hfn,lla] at hle2;repeat' first|refine Vz ?_|intro _
  refine M3 [.var gh 350 (lK x b (O6 54 kb++(l.take i).flatten).length)] _ (by rw[hs];exact Ht (s:=l[i]) hH (by rw[lla,vE];omega)) (fun u m1 hh=>?_) lpr;obtain⟨rfl,x',b',hH',rfl⟩:=hh;rw[laa,<- hfn] at hH' ⊢;repeat' first|refine Vz ?_|intro _
  refine o6 (i+1,x',b') ⟨rfl,rfl,rfl,rfl,rfl,rfl,trivial⟩ ?_ ⟨hil,hH'⟩ (by dsimp only;omega);exact r9
 ·obtain rfl:i=l.length:=by omega
  rw[List.take_length] at hH ⊢;repeat' first|refine Vz ?_|intro _
  refine M3 [] _ (by rw[hs];exact ZG hk 92 92 rfl) (fun u m1 hh=>?_) lpr;obtain⟨rfl,rfl⟩:=hh;repeat' first|refine Vz ?_|intro _
  refine M3 [.var gh 350 (lK x b (O6 54 kb++l.flatten).length)] _ (by rw[hs];exact a3u hH (by rw[lla,vE];omega)) (fun u m1 hh=>?_) lpr;obtain⟨rfl,rfl⟩:=hh;have:LenLe (O6 92 kb) 64:=⟨by rw[vE];omega⟩;repeat' first|refine Vz ?_|intro _
  rw[a1y];repeat' first|refine Vz ?_|intro _
  exact o5 [] ⟨rfl,rfl⟩ (List.nil_sublist _)
instance b4S {k s:Bs}:Ans prog GL 114 [str k,str s] (k.length<=1000000/\s.length<=1000000000) (hA (EM k s)):=⟨fun hp=>by
 obtain⟨hk,hsl⟩:=hp;refine qE func114 rfl ntmps114 rfl (fun _ hs=>?_);repeat' first|refine Vz ?_|intro _
 refine M3 [] _ (by rw[hs];exact Yp hk) (fun u m1 hh=>?_) lpr;obtain⟨g,rfl,rfl⟩:=hh;repeat' first|refine Vz ?_|intro _
 refine M3 [.var g 311 (sQ (kK k))] _ (by rw[hs];exact Yg (l:=[s]) (id:=none) (Gq k) (by simpa using by omega) sm) (fun u m1 hh=>?_) lpr;obtain⟨rfl,rfl⟩:=hh;repeat' first|refine Vz ?_|intro _
 refine d9 ?_;rw[EM];simp[I8]⟩

theorem a2C (k:Bs){i:Nat}(h:i<64):(kK k).getD i 0=if i<(if 64<k.length then (Y0 k).l else k).length then (if 64<k.length then (Y0 k).l else k).getD i 0 else 0:=by
 have hl:(if 64<k.length then (Y0 k).l else k).length<=64:=by
  split
  ·rw[Hsh.len];omega
  ·omega
 have hz:(zeros 64).length=64:=by simp[zeros]
 have he:kK k=(if 64<k.length then (Y0 k).l else k)++(zeros 64).drop (if 64<k.length then (Y0 k).l else k).length:=by rw[kK,lS,hz,List.take_of_length_le hl]
 rw[he];generalize (if 64<k.length then (Y0 k).l else k)=q at *;by_cases hi:i<q.length
 ·rw[if_pos hi,List.getD,List.getD,List.getElem?_append_left hi]
 ·rw[if_neg hi,List.getD,List.getElem?_append_right om,zeros,List.drop_replicate,List.getElem?_replicate,if_pos om];rfl
theorem XF {l:Bs}{b:UInt8}{i:Nat}(h:i<l.length):O6 b (l.take i)++[l[i] ^^^ b]=O6 b (l.take (i+1)):=by
 rw[List.take_succ_eq_append_getElem h,O6,O6,List.map_append];rfl
instance b5k {k s:Bs}:Ans prog GL 51 [str k,str s] (k.length<=1000000/\s.length<=1000000000) (hA (EM k s)):=⟨fun hp=>by
 obtain⟨hk,hsl⟩:=hp;have hkl:=Gq k;have hkt:=fun i h=>a2C k (i:=i) h;refine qE func51 rfl ntmps51 rfl (fun _ hs=>?_);repeat' first|refine Vz ?_|intro _
 rename_i g4;refine IX (α:=Unit) (fun _=>[(0,str (if 64<k.length then (Y0 k).l else k)),(1,str s),(4,ptr g4)]) (fun _=>[.var g4 48 (hA J7)]) ?_ (fun _=>?_)
 ·refine o9 (fun h1=>?_) (fun h1=>?_)
  ·have:LenLe k 1000000:=⟨hk⟩;repeat' first|refine Vz ?_|intro _
   exact fO () ⟨by rw[if_pos om];rfl,rfl,rfl,trivial⟩ slr
  ·repeat' first|refine Vz ?_|intro _
   exact fO () ⟨by rw[if_neg om];rfl,rfl,rfl,trivial⟩ slr
 generalize (if 64<k.length then (Y0 k).l else k)=q at *;generalize hK:kK k=K at *;repeat' first|refine Vz ?_|intro _
 refine aM 5 (Imp.nil (k:=1)) ?_;refine aM 6 (Imp.nil (k:=1)) ?_;refine O5 (fun ok w h=>h.full 5 1 none 0) ?_;refine O5 (fun ok w h=>h.full 5 1 none 0) ?_;refine z8 (α:=Nat × Value × Value) (fun z=>[(0,str q),(1,str s),(4,ptr g4),(5,.sl 1 ((O6 54 (K.take z.1)).map p9) (some z.2.1)),(6,.sl 1 ((O6 92 (K.take z.1)).map p9) (some z.2.2)),(7,int z.1)])
  (fun z=>[.tail 5 1 z.2.1,.tail 5 1 z.2.2,.var g4 48 (hA J7)]) (fun z=>z.1<=64) (fun z=>64-z.1) (0,.slice none 0 0,.slice none 0 0) ⟨rfl,rfl,rfl,rfl,rfl,rfl,trivial⟩ slr (Nat.zero_le _) ?_
 rintro⟨i,v5,v6⟩ hi;dsimp only at hi ⊢;repeat' first|refine Vz ?_|intro _
 refine o9 (fun hlt=>?_) (fun hlt=>?_)
 ·have hi64:i<64:=om
  have hc:=hkt i hi64;have hl5:(O6 54 (K.take i)).length=i:=by rw[vE,List.length_take];omega
  have hl6:(O6 92 (K.take i)).length=i:=by rw[vE,List.length_take];omega
  have hx5:=XF (b:=54) (l:=K) (i:=i) om;have hx6:=XF (b:=92) (l:=K) (i:=i) om;have hge:K[i]'(by omega)=K.getD i 0:=by simp[List.getD,show i<K.length by omega]
  rw[hge] at hx5 hx6;generalize hcc:K.getD i 0=c at *;repeat' first|refine Vz ?_|intro _
  refine IX (α:=Unit) (fun _=>[(0,str q),(1,str s),(4,ptr g4),(5,.sl 1 ((O6 54 (K.take i)).map p9) (some v5)),(6,.sl 1 ((O6 92 (K.take i)).map p9) (some v6)),(7,int i),(8,p9 c)]) (fun _=>[.tail 5 1 v5,.tail 5 1 v6,.var g4 48 (hA J7)]) ?_ (fun _=>?_)
  ·refine o9 (fun h1=>?_) (fun h1=>?_)
   ·have hiq:i<q.length:=om
    repeat' first|refine Vz ?_|intro _
    refine rQ (c:=c) (b:=q) i ?_ (by rw[hc,if_pos hiq];simp[List.getD,hiq]);repeat' first|refine Vz ?_|intro _
    exact fO () ⟨rfl,rfl,rfl,rfl,rfl,rfl,rfl,trivial⟩ slr
   ·rw[hc,if_neg om];repeat' first|refine Vz ?_|intro _
    exact fO () ⟨rfl,rfl,rfl,rfl,rfl,rfl,rfl,trivial⟩ slr
  ·repeat' first|refine Vz ?_|intro _
   refine I4 (fun v5'=>?_);repeat' first|refine Vz ?_|intro _
   refine I4 (fun v6'=>?_);repeat' first|refine Vz ?_|intro _
   refine M6 5 (v':=.sl 1 ((O6 54 (K.take (i+1))).map p9) (some v5')) (Imp.of_eq (by rw[<- hx5,List.map_append])) ?_;refine M6 6 (v':=.sl 1 ((O6 92 (K.take (i+1))).map p9) (some v6')) (Imp.of_eq (by rw[<- hx6,List.map_append])) ?_;exact o6 (i+1,v5',v6') ⟨rfl,rfl,rfl,rfl,rfl,rfl,trivial⟩ slr om (by dsimp only;omega)
 ·obtain rfl:i=64:=by omega
  rw[List.take_of_length_le om];have:LenLe (O6 54 K) 64:=⟨by rw[vE];omega⟩;have:LenLe (O6 92 K) 64:=⟨by rw[vE];omega⟩;have:LenLe s 1000000000:=⟨hsl⟩;repeat' first|refine Vz ?_|intro _
  refine d9 ?_;rw[EM,hK];rfl⟩
instance b7I {c:Bs}{h t:Int}{r:Hsh}:Ans prog GL 115 [.agg 35 [str c,int h,int t,hA r]] (h<=9223372036854775807/\t<=9223372036854775807) (str (pV ⟨c,h,t,r⟩)):=⟨fun hp=>by
 obtain⟨h1,h2⟩:=hp;refine qE func115 rfl ntmps115 rfl (fun _ hs=>?_);repeat' first|refine Vz ?_|intro _
 refine d9 ?_;rfl⟩
instance b5F {c:Bs}{h t:Int}{r:Hsh}:Ans prog GL 52 [.agg 35 [str c,int h,int t,hA r]] (h<=9223372036854775807/\t<=9223372036854775807) (str (pV ⟨c,h,t,r⟩)):=⟨fun hp=>by
 obtain⟨h1,h2⟩:=hp;refine qE func52 rfl ntmps52 rfl (fun _ hs=>?_);repeat' first|refine Vz ?_|intro _
 refine d9 ?_;rfl⟩
theorem Ia (x:Hdr):(pV x).length<=100000000:=by
 have h1:=(inferInstance:LenLe (o8 99 x.c++D8 104 x.h++D8 116 x.t++o8 114 x.r.l) _).out;unfold pV;omega
instance b8y {k c:Bs}{h t:Int}{r:Hsh}:Ans prog GL 47 [str k,.agg 35 [str c,int h,int t,hA r]] (k.length<=1000000/\h<=9223372036854775807/\t<=9223372036854775807) (hA (tY k ⟨c,h,t,r⟩)):=⟨fun hp=>by
 obtain⟨h0,h1,h2⟩:=hp;have h3:=Ia ⟨c,h,t,r⟩;refine qE func47 rfl ntmps47 rfl (fun _ hs=>?_);repeat' first|refine Vz ?_|intro _
 refine d9 ?_;rfl⟩
instance b5Q {k c:Bs}{h t:Int}{r:Hsh}:Ans prog GL 22 [str k,.agg 35 [str c,int h,int t,hA r]] (k.length<=1000000/\h<=9223372036854775807/\t<=9223372036854775807) (hA (tY k ⟨c,h,t,r⟩)):=⟨fun hp=>by
 obtain⟨h0,h1,h2⟩:=hp;have h3:=Ia ⟨c,h,t,r⟩;refine qE func22 rfl ntmps22 rfl (fun _ hs=>?_);repeat' first|refine Vz ?_|intro _
 refine d9 ?_;rfl⟩
instance b4M {c:Bs}{h t:Int}{r:Hsh}:Ans prog GL 363 [.agg 35 [str c,int h,int t,hA r]] True (.agg 34 [int h,int t,hA r]):=⟨fun _=>by
 refine qE func363 rfl ntmps363 rfl (fun _ hs=>?_);repeat' first|refine Vz ?_|intro _
 refine d9 ?_;rfl⟩
instance b7J {c:Bs}{h t:Int}{r:Hsh}:Ans prog GL 365 [str c,.agg 34 [int h,int t,hA r]] True (.agg 35 [str c,int h,int t,hA r]):=⟨fun _=>by
 refine qE func365 rfl ntmps365 rfl (fun _ hs=>?_);repeat' first|refine Vz ?_|intro _
 refine d9 ?_;rfl⟩
instance b5G {c k:Bs}{p:Int}{f:Bool}{X:AV}{h t:Int}{r:Hsh}:Ans prog GL 275 [.agg 5 [str c,str k,int p,j3 f,X],.agg 34 [int h,int t,hA r]] True (.agg 35 [str c,int h,int t,hA r]):=⟨fun _=>by
 refine qE func275 rfl ntmps275 rfl (fun _ hs=>?_);repeat' first|refine Vz ?_|intro _
 refine d9 ?_;rfl⟩
instance b8n {c:Bs}{h t:Int}{r:Hsh}:Ans prog GL 367 [.agg 35 [str c,int h,int t,hA r]] True (j3 (aS ⟨c,h,t,r⟩)):=⟨fun _=>by
 rcases c with _|⟨a,c⟩
 ·refine qE func367 rfl ntmps367 rfl (fun _ hs=>?_);repeat' (first|refine W ?_|refine R9 ?_|refine vR ?_|intro _|refine G5 (fun _=>?_)|refine o9 ?_ ?_|refine qG ?_ ?_|refine Y5 ?_ ?_|refine GK ?_ ?_)
  refine d9 ?_;simp[I8,aS]
 ·refine qE func367 rfl ntmps367 rfl (fun _ hs=>?_);repeat' (first|refine W ?_|refine R9 ?_|refine vR ?_|intro _|refine G5 (fun _=>?_)|refine o9 ?_ ?_|refine qG ?_ ?_|refine Y5 ?_ ?_|refine GK ?_ ?_)
  all_goals (refine d9 ?_;refine WM ?_;simp only[aS,decide_eq_true_eq,Bool.false_eq_true,false_iff,List.length_cons] at *;omega)⟩
instance b5P {c:Bs}{h t:Int}{r:Hsh}:Ans prog GL 273 [.agg 35 [str c,int h,int t,hA r]] True (j3 (aS ⟨c,h,t,r⟩)):=⟨fun _=>by
 refine qE func273 rfl ntmps273 rfl (fun _ hs=>?_);repeat' (first|refine W ?_|refine R9 ?_|refine vR ?_|intro _|refine G5 (fun _=>?_)|refine o9 ?_ ?_|refine qG ?_ ?_|refine Y5 ?_ ?_|refine GK ?_ ?_)
 all_goals (refine d9 ?_;refine WM ?_;simp only[aS,decide_eq_true_eq,Bool.false_eq_true,false_iff] at *;omega)⟩
instance b7P {h t h' t':Int}{r r':Hsh}:Ans prog GL 416 [.agg 34 [int h,int t,hA r],.agg 34 [int h',int t',hA r']] True (j3 (fI ⟨h,t,r⟩ ⟨h',t',r'⟩)):=⟨fun _=>by
 refine qE func416 rfl ntmps416 rfl (fun _ hs=>?_);repeat' (first|refine W ?_|refine R9 ?_|refine vR ?_|intro _|refine G5 (fun _=>?_)|refine o9 ?_ ?_|refine qG ?_ ?_|refine Y5 ?_ ?_|refine GK ?_ ?_)
 all_goals (refine d9 ?_;refine WM ?_;simp only[fI,decide_eq_true_eq,Bool.false_eq_true,false_iff] at *;omega)⟩
instance b7q {l:List Sta}{xs:List AV}{id:Option Value}[hx:Stas xs l]:Ans prog GL 377 [.sl 34 xs id] True (H6 (eU l)):=⟨fun _=>by
 have h:=hx.out;subst h;have hm:(l.map H6).length=l.length:=llm _;refine qE func377 rfl ntmps377 rfl (fun _ hs=>?_);refine uZ 0 (fun hb=>?_);have hb:=lJ hb;repeat' first|refine Vz ?_|intro _
 refine o9 (fun h1=>?_) (fun h1=>?_)
 ·repeat' first|refine Vz ?_|intro _
  refine d9 ?_;obtain rfl:l=[]:=List.eq_nil_of_length_eq_zero om;rfl
 ·repeat' first|refine Vz ?_|intro _
  refine Z0 (l:=l) (f:=H6) (l.length-1) om ?_;repeat' first|refine Vz ?_|intro _
  refine d9 ?_;rw[eU,List.getLastD_eq_getLast?,List.getLast?_eq_getElem?,List.getElem?_eq_getElem om];rfl⟩
instance b7p {c k:Bs}{p:Int}{f:Bool}{l:List Sta}{xs:List AV}{id:Option Value}[Stas xs l]:Ans prog GL 317 [.agg 5 [str c,str k,int p,j3 f,.sl 34 xs id]] True (H6 (eU l)):=⟨fun _=>by
 refine qE func317 rfl ntmps317 rfl (fun _ hs=>?_);repeat' first|refine Vz ?_|intro _
 refine d9 ?_;rfl⟩
instance b5B {c k:Bs}{p:Int}{f:Bool}{l:List Sta}{xs:List AV}{id:Option Value}[hx:Stas xs l]:Ans prog GL 210 [.agg 5 [str c,str k,int p,j3 f,.sl 34 xs id]] True (H6 (eU l)):=⟨fun _=>by
 have h:=hx.out;subst h;have hm:(l.map H6).length=l.length:=llm _;refine qE func210 rfl ntmps210 rfl (fun _ hs=>?_);refine IY 0 4 (fun hb=>?_);have hb:=lJ hb;repeat' first|refine Vz ?_|intro _
 refine o9 (fun h1=>?_) (fun h1=>?_)
 ·repeat' first|refine Vz ?_|intro _
  refine d9 ?_;obtain rfl:l=[]:=List.eq_nil_of_length_eq_zero om;rfl
 ·repeat' first|refine Vz ?_|intro _
  refine Z0 (l:=l) (f:=H6) (l.length-1) om ?_;repeat' first|refine Vz ?_|intro _
  refine d9 ?_;rw[eU,List.getLastD_eq_getLast?,List.getLast?_eq_getElem?,List.getElem?_eq_getElem om];rfl⟩
instance c5s {c k:Bs}{p:Int}{f:Bool}{l:List Sta}{xs:List AV}{id:Option Value}{now:Int}[Stas xs l]:Ans prog GL 366 [.agg 5 [str c,str k,int p,j3 f,.sl 34 xs id],int now] (-4611686018427387904<=(eU l).t/\(eU l).t<=4611686018427387904/\-4611686018427387904<=p/\p<4611686018427387904) (j3 (lX ⟨c,k,p,f,l⟩ now)):=⟨fun hp=>by
 obtain⟨h1,h2,h3,h4⟩:=hp;refine qE func366 rfl ntmps366 rfl (fun _ hs=>?_);cases f
 all_goals
  repeat' first|refine Vz ?_|intro _
  refine d9 ?_;simp[I8,lX]⟩
instance b6g {c k:Bs}{p:Int}{f:Bool}{l:List Sta}{xs:List AV}{id:Option Value}{now:Int}[Stas xs l]:Ans prog GL 272 [.agg 5 [str c,str k,int p,j3 f,.sl 34 xs id],int now] (-4611686018427387904<=(eU l).t/\(eU l).t<=4611686018427387904/\-4611686018427387904<=p/\p<4611686018427387904) (j3 (lX ⟨c,k,p,f,l⟩ now)):=⟨fun hp=>by
 obtain⟨h1,h2,h3,h4⟩:=hp;refine qE func272 rfl ntmps272 rfl (fun _ hs=>?_);cases f
 all_goals
  repeat' first|refine Vz ?_|intro _
  refine d9 ?_;simp[I8,lX]⟩
end Go.Proofs.YtocpacdnjbjjmaaGreatDoor

namespace Go.Proofs.YtocpacdnjbjjmaaGreatDoor
open Go Go.RowKit Tw Av
end Go.Proofs.YtocpacdnjbjjmaaGreatDoor

namespace Go.Proofs.YtocpacdnjbjjmaaGreatDoor
open Go Go.RowKit Tw Av Go.Proofs.Tryz
theorem at1 {h t:Int}{r:Hsh}{g:Nat}{T:TypeId}{n:Int}:Av.Spec prog GL 440 [.agg 34 [int h,int t,hA r],ptr g] [.var g T (int n)] fun u m=>u=j3 (decide (n<=h))/\m=[.var g T (int n)]:=by
 refine qE func440 rfl ntmps440 rfl (fun _ hs=>?_);repeat' first|refine Vz ?_|intro _
 exact o5 [.var g T (int n)] ⟨rfl,rfl⟩ (List.sublist_cons_self _ _)
theorem a7g {l:List Sta}{h:Int}{i:Nat}(hi:i<l.length)(hb:∀ j,(hj:j<i)->¬ h<=(l[j]'(by omega)).h)(hh:h<=l[i].h):M9 l h=i:=by
 unfold M9;rw[List.findIdx_eq hi];exact⟨by simpa using hh,fun j hj=>by simpa using hb j hj⟩
theorem a7h {l:List Sta}{h:Int}(hb:∀ j,(hj:j<l.length)->¬ h<=l[j].h):M9 l h=l.length:=by
 unfold M9;rw[List.findIdx_eq_length];intro x hx;obtain⟨j,hj,rfl⟩:=List.getElem_of_mem hx;simpa using hb j hj
theorem index_spec {l:List Sta}{xs:List AV}{id:Option Value}[hx:Stas xs l]{g:Nat}{T:TypeId}{n:Int}:Av.Spec prog GL 439 [.sl 34 xs id,D6 440 [.pointer (some ⟨g,0,none⟩)]] [.var g T (int n)] fun u m=>u=int (if M9 l n<l.length then (M9 l n:Int) else -1)/\m=[.var g T (int n)]:=by
 have h:=hx.out;subst h;have hm:(l.map H6).length=l.length:=llm _;refine qE func439 rfl ntmps439 rfl (fun _ hs=>?_);refine uZ 0 (fun hb=>?_);have hb:=lJ hb;repeat' first|refine Vz ?_|intro _
 refine z8 (α:=Nat) (fun i=>[(0,.sl 34 (l.map H6) id),(1,D6 440 [.pointer (some ⟨g,0,none⟩)]),(7,int (l.map H6).length),(8,int i)]) (fun i=>[.var g T (int n)])
  (fun i=>i<=l.length/\∀ j,(hj:j<l.length)->j<i->¬ n<=l[j].h) (fun i=>l.length-i) 0 ⟨rfl,rfl,rfl,rfl,trivial⟩ slr ⟨Nat.zero_le _,fun _ _ h=>absurd h om⟩ ?_
 rintro i ⟨hi,hall⟩;repeat' first|refine Vz ?_|intro _
 refine o9 (fun hlt=>?_) (fun hlt=>?_)
 ·have hil:i<l.length:=om
  repeat' first|refine Vz ?_|intro _
  refine kP (args:=[H6 l[i]]) (cs:=[.pointer (some ⟨g,0,none⟩)]) [.var g T (int n)] _ (by rw[hs];exact at1) (fun u m1 hh=>?_) lpr;obtain⟨rfl,rfl⟩:=hh;repeat' first|refine Vz ?_|intro _
  refine o9 (fun hh=>?_) (fun hh=>?_)
  ·repeat' first|refine Vz ?_|intro _
   refine o5 [.var g T (int n)] ⟨?_,rfl⟩ slr;rw[a7g hil (fun j hj=>hall j om hj) hh,if_pos hil];rfl
  ·repeat' first|refine Vz ?_|intro _
   refine o6 (i+1) ⟨rfl,rfl,rfl,rfl,trivial⟩ slr ⟨hil,fun j hj h=>?_⟩ om;rcases Nat.lt_or_ge j i with h2|h2
   ·exact hall j hj h2
   ·obtain rfl:j=i:=by omega
    exact hh
 ·obtain rfl:i=l.length:=by omega
  repeat' first|refine Vz ?_|intro _
  refine o5 [.var g T (int n)] ⟨?_,rfl⟩ slr;rw[a7h (fun j hj=>hall j hj hj),if_neg om];rfl
theorem a7f {l:List Sta}{h:Int}(hl:M9 l h<l.length):gK l h=decide (l[M9 l h].h=h):=by
 unfold gK;rw[List.getD,List.getElem?_eq_getElem hl];simp[hl]
theorem Ph {l:List Sta}{h:Int}(hl:¬ M9 l h<l.length):gK l h=false:=by
 unfold gK;simp[hl]
instance b8C {c k:Bs}{p:Int}{f:Bool}{l:List Sta}{xs:List AV}{id:Option Value}{n:Int}[hx:Stas xs l]:Ans prog GL 417 [.agg 5 [str c,str k,int p,j3 f,.sl 34 xs id],int n] True (.tup [int (M9 l n),j3 (gK l n)]):=⟨fun _=>by
 have h:=hx.out;subst h;have hm:(l.map H6).length=l.length:=llm _;have hle:=OC l n;refine qE func417 rfl ntmps417 rfl (fun _ hs=>?_);refine IY 0 4 (fun hb=>?_);have hb:=lJ hb;repeat' first|refine Vz ?_|intro _
 rename_i g2 g3;refine eY (vs:=[.pointer (some ⟨g3,0,none⟩)]) ?_;repeat' first|refine Vz ?_|intro _
 refine M3 [.var g3 3 (int n)] _ (by rw[hs];exact index_spec (l:=l) (xs:=l.map H6) (id:=id)) (fun u m1 hh=>?_) lpr;obtain⟨rfl,rfl⟩:=hh;by_cases hl:M9 l n<l.length
 ·rw[if_pos hl,a7f hl];repeat' first|refine Vz ?_|intro _
  refine d9 ?_;rfl
 ·rw[if_neg hl,Ph hl];obtain hl:M9 l n=l.length:=by omega
  rw[hl];repeat' first|refine Vz ?_|intro _
  refine d9 ?_;rw[hm];rfl⟩
instance b8A {c k:Bs}{p:Int}{f:Bool}{l:List Sta}{xs:List AV}{id:Option Value}{n:Int}[hx:Stas xs l]:Ans prog GL 430 [.agg 5 [str c,str k,int p,j3 f,.sl 34 xs id],int n] True (.tup [H6 ((rJ l n).getD X3),j3 (rJ l n).isSome]):=⟨fun _=>by
 have h:=hx.out;subst h;have hm:(l.map H6).length=l.length:=llm _;refine qE func430 rfl ntmps430 rfl (fun _ hs=>?_);cases hi:gK l n
 all_goals
  unfold rJ;rw[hi];repeat' first|refine Vz ?_|intro _
  rw[hi];repeat' first|refine Vz ?_|intro _
 focus
  refine d9 ?_;rfl
 have hl:M9 l n<l.length:=by
  rcases Nat.lt_or_ge (M9 l n) l.length with h|h
  ·exact h
  ·rw[Ph om] at hi;cases hi
 repeat' first|refine Vz ?_|intro _
 refine d9 ?_;rw[List.getD,List.getElem?_eq_getElem hl];rfl⟩
theorem a4S {l:List Sta}{h:Int}{i:Nat}(hi:i<l.length)(hb:∀ j,(hj:j<i)->¬ (l[j]'(by omega)).h=h)(hh:l[i].h=h):rG l h=some l[i]:=by
 unfold rG;rw[List.find?_eq_some_iff_getElem];exact⟨by simpa using hh,i,hi,rfl,fun j hj=>by simpa using hb j hj⟩
theorem a4T {l:List Sta}{h:Int}(hb:∀ j,(hj:j<l.length)->¬ l[j].h=h):rG l h=none:=by
 unfold rG;rw[List.find?_eq_none];intro x hx;obtain⟨j,hj,rfl⟩:=List.getElem_of_mem hx;simpa using hb j hj
instance b5K {c k:Bs}{p:Int}{f:Bool}{l:List Sta}{xs:List AV}{id:Option Value}{n:Int}[hx:Stas xs l]:Ans prog GL 274 [.agg 5 [str c,str k,int p,j3 f,.sl 34 xs id],int n] True (.tup [H6 ((rG l n).getD X3),j3 (rG l n).isSome]):=⟨fun _=>by
 have h:=hx.out;subst h;have hm:(l.map H6).length=l.length:=llm _;refine qE func274 rfl ntmps274 rfl (fun _ hs=>?_);refine IY 0 4 (fun hb=>?_);have hb:=lJ hb;repeat' first|refine Vz ?_|intro _
 rename_i g2 g4;refine z8 (α:=Nat) (fun i=>[(1,int n),(2,ptr g2),(4,ptr g4),(6,int i)]) (fun i=>[.var g4 289 (H6 X3),.var g2 269 (.agg 5 [str c,str k,int p,j3 f,.sl 34 (l.map H6) id])])
  (fun i=>i<=l.length/\∀ j,(hj:j<l.length)->j<i->¬ l[j].h=n) (fun i=>l.length-i) 0 ⟨rfl,rfl,rfl,rfl,trivial⟩ slr ⟨Nat.zero_le _,fun _ _ h=>absurd h om⟩ ?_
 rintro i ⟨hi,hall⟩;repeat' first|refine Vz ?_|intro _
 refine o9 (fun hlt=>?_) (fun hlt=>?_)
 ·have hil:i<l.length:=om
  repeat' first|refine Vz ?_|intro _
  refine o9 (fun hh=>?_) (fun hh=>?_)
  ·repeat' first|refine Vz ?_|intro _
   refine d9 ?_;rw[a4S hil (fun j hj=>hall j om hj) hh];rfl
  ·repeat' first|refine Vz ?_|intro _
   refine o6 (i+1) ⟨rfl,rfl,rfl,rfl,trivial⟩ slr ⟨hil,fun j hj h=>?_⟩ om;rcases Nat.lt_or_ge j i with h2|h2
   ·exact hall j hj h2
   ·obtain rfl:j=i:=by omega
    exact hh
 ·obtain rfl:i=l.length:=by omega
  repeat' first|refine Vz ?_|intro _
  refine d9 ?_;rw[a4T (fun j hj=>hall j hj hj)];rfl⟩

theorem Pp {n:Nat}{p:Nat->Bool}:(List.range n).all p=true↔∀ j,j<n->p j=true:=by simp
theorem Fj {x:Cli}(h:¬ (x.k.length<=64/\1<=x.p/\x.p<=1099511627776/\1<=x.l.length/\x.l.length<=32)):aN x=false:=by
 unfold aN;simp only[h,decide_false,Bool.false_and]
theorem BH {x:Cli}{i:Nat}(hi:i<x.l.length)(h:pR x.c x.l i=false):aN x=false:=by
 unfold aN;rw[Bool.and_eq_false_iff];refine .inr (Bool.eq_false_iff.2 fun hh=>?_);have:=Pp.1 hh i hi;rw[h] at this;cases this
theorem Fg {x:Cli}(h:x.k.length<=64/\1<=x.p/\x.p<=1099511627776/\1<=x.l.length/\x.l.length<=32)(ha:∀ j,j<x.l.length->pR x.c x.l j=true):aN x=true:=by
 unfold aN;simp only[h,decide_true,Bool.true_and,Pp.2 ha,and_self]
theorem TQ {c:Bs}{l:List Sta}{i:Nat}(hi:i<l.length):pR c l i=(aS ⟨c,l[i].h,l[i].t,l[i].r⟩&&(decide (i=0) || fI (l.getD (i-1) X3) l[i])):=by
 have hg:l.getD i X3=l[i]:=by simp[List.getD,hi]
 unfold pR;rw[hg];rfl
set_option maxHeartbeats 1000000 in
instance b7l {c k:Bs}{p:Int}{f:Bool}{l:List Sta}{xs:List AV}{id:Option Value}[hx:Stas xs l]:Ans prog GL 364 [.agg 5 [str c,str k,int p,j3 f,.sl 34 xs id]] True (j3 (aN ⟨c,k,p,f,l⟩)):=⟨fun _=>by
 have h:=hx.out;subst h;have hm:(l.map H6).length=l.length:=llm _;refine qE func364 rfl ntmps364 rfl (fun _ hs=>?_);refine IY 0 4 (fun hb=>?_);have hb:=lJ hb;by_cases hok:k.length<=64/\1<=p/\p<=1099511627776/\1<=l.length/\l.length<=32
 ·obtain⟨h1,h2,h3,h4,h5⟩:=hok;repeat' first|refine Zz ?_|intro _
  rename_i g1;refine z8 (α:=Nat) (fun i=>[(1,ptr g1),(3,j3 true),(33,.sl 34 (l.map H6) id),(34,int (l.map H6).length),(35,int i)]) (fun i=>[.var g1 269 (.agg 5 [str c,str k,int p,j3 f,.sl 34 (l.map H6) id])])
   (fun i=>i<=l.length/\∀ j,j<i->pR c l j=true) (fun i=>l.length-i) 0 ⟨rfl,rfl,rfl,rfl,rfl,trivial⟩ slr ⟨Nat.zero_le _,fun _ h=>absurd h om⟩ ?_
  rintro i ⟨hi,hall⟩;repeat' first|refine Vz ?_|intro _
  refine o9 (fun hlt=>?_) (fun hlt=>?_)
  ·have hil:i<l.length:=om
   have hat:=TQ (c:=c) hil;repeat' first|refine Vz ?_|intro _
   cases hc:aS ⟨c,l[i].h,l[i].t,l[i].r⟩
   ·rw[hc,Bool.false_and] at hat;repeat' first|refine Vz ?_|intro _
    refine d9 ?_;rw[BH (x:=⟨c,k,p,f,l⟩) hil hat];rfl
   rw[hc,Bool.true_and] at hat;rcases i with _|i
   ·have h0:∀ j,j<1->pR c l j=true:=fun j hj=>by
     obtain rfl:j=0:=by omega
     rw[hat];rfl
    repeat' first|refine Vz ?_|intro _
    refine o6 1 ⟨rfl,rfl,rfl,rfl,rfl,trivial⟩ ?_ ⟨hil,h0⟩ om;exact r9
   ·have hil2:i<l.length:=om
    have hg2:l.getD (i+1-1) X3=l[i]:=by simp[List.getD,hil2]
    rw[hg2,dZ om,Bool.false_or] at hat;repeat' first|refine Vz ?_|intro _
    rw[dZ (show ¬ (((i+1:Nat):Int)=0) by omega)];repeat' first|refine Vz ?_|intro _
    rw[show (((i+1:Nat):Int)-1)=(i:Int) by omega];cases hf:fI l[i] l[i+1]
    ·rw[hf] at hat;repeat' first|refine Vz ?_|intro _
     rw[hf];repeat' first|refine Vz ?_|intro _
     refine d9 ?_;rw[BH (x:=⟨c,k,p,f,l⟩) hil hat];rfl
    ·rw[hf] at hat;repeat' first|refine Vz ?_|intro _
     rw[hf];repeat' first|refine Vz ?_|intro _
     refine o6 (i+2) ⟨rfl,rfl,rfl,rfl,rfl,trivial⟩ ?_ ⟨hil,fun j hj=>?_⟩ om
     ·exact r9
     rcases Nat.lt_or_ge j (i+1) with h6|h6
     ·exact hall j h6
     ·obtain rfl:j=i+1:=by omega
      exact hat
  ·obtain rfl:i=l.length:=by omega
   repeat' first|refine Vz ?_|intro _
   refine d9 ?_;rw[Fg ⟨h1,h2,h3,h4,h5⟩ hall];rfl
 ·rw[Fj hok];repeat' first|refine Vz ?_|intro _
  refine Y5 (fun h=>?_) (fun h6=>?_)
  ·repeat' first|refine Vz ?_|intro _
   refine d9 ?_;rfl
  repeat' first|refine Vz ?_|intro _
  refine Y5 (fun h=>?_) (fun h7=>?_)
  ·repeat' first|refine Vz ?_|intro _
   refine d9 ?_;rfl
  repeat' first|refine Vz ?_|intro _
  refine Y5 (fun h=>?_) (fun h8=>?_)
  ·repeat' first|refine Vz ?_|intro _
   refine d9 ?_;rfl
  repeat' first|refine Vz ?_|intro _
  refine Y5 (fun h=>?_) (fun h9=>?_)
  ·repeat' first|refine Vz ?_|intro _
   refine d9 ?_;rfl
  repeat' first|refine Vz ?_|intro _
  refine tH ?_;repeat' first|refine Vz ?_|intro _
  refine d9 ?_;rfl⟩
end Go.Proofs.YtocpacdnjbjjmaaGreatDoor
