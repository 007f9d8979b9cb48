/- . -/
import Derived.Test.YtgcmdlboancepaaGreatDoorQ25
set_option maxHeartbeats 64000000
namespace Go.Proofs.Z
open Go Go.RowKit Tw Av Go.Proofs.Tryz
section
variable {b:Bool}{s:Bs}
def uX (s:Bs)(b:Bool):List Bs:=jJ 101 2 4000 s b
def nG (s:Bs)(b:Bool):Bs:=o8 101 16777215 s b
def qM (s:Bs)(b:Bool):Bool:=eF 101 2 4000 s b
def qL (s:Bs)(b:Bool):Bs:=G9 80 4000 (nG s b) (qM s b)
def nE (s:Bs)(b:Bool):Bs:=o8 80 4000 (nG s b) (qM s b)
def jG (s:Bs)(b:Bool):Bool:=F4 80 4000 (nG s b) (qM s b)
def jF (s:Bs)(b:Bool):Bool:=decide (fG (qL s b)=0)&&(!jG s b&&decide ((uX s b).length≠1))
def Er:List Bs->List Ent
 | [k,v]=>[⟨k,v⟩]
 | _=>[]
def tN (s:Bs)(b:Bool):List Ent:=if jF s b=true then Er (uX s b) else []
def oH (s:Bs)(b:Bool):Prf:=if jF s b=true then jH (qL s b) else eD
theorem NZ :o8 101 16777215 s b=nG s b:=rfl
theorem UX :eF 101 2 4000 s b=qM s b:=rfl
theorem NY :G9 80 4000 (nG s b) (qM s b)=qL s b:=rfl
theorem NW :o8 80 4000 (nG s b) (qM s b)=nE s b:=rfl
theorem UW :F4 80 4000 (nG s b) (qM s b)=jG s b:=rfl
theorem JL :jJ 101 2 4000 s b=uX s b:=rfl
theorem NK (s:Bs)(b:Bool):(nG s b).length<=s.length/\(nE s b).length<=s.length/\(qL s b).length<=4000:=by
 have h1:=(aH 101 16777215 s b).1;have h2:=(aH 80 4000 (nG s b) (qM s b)).1;have h3:=(xJ 80 4000 (nG s b) (qM s b)).2 dc;rw[NZ] at h1;rw[NW] at h2;rw[NY] at h3;exact⟨h1,om,om⟩
theorem XL {e:Bool}:Imp (.tup [.lit (.slice none 0 0),.agg 3 [.lit (.int .i64 0),.lit (.int .i64 0),.lit (.slice none 0 0)],d9 e]) (.tup [.sl 2 [] none,Z9 eD,d9 e]):=(inferInstance:ImpR _ (.tup [.sl 2 [] none,.agg 3 [int 0,int 0,.sl 32 [] none],d9 e])).imp
theorem a4E {e:Bool}{x:AV}:Imp (.tup [.lit (.slice none 0 0),x,d9 e]) (.tup [.sl 2 [] none,x,d9 e]):=ImpR.imp
instance b6V {g:Nat}:AnsM prog GL 386 g [] 311 (F7 s b) (s.length<=1000000000) (.tup [.sl 2 ((tN s b).map D5) none,Z9 (oH s b),d9 (jF s b)]) (F7 (nE s b) (jG s b)):=⟨λhl=>by
 obtain⟨l1,l2,l3⟩:=NK s b;have e1:(nG s b).length=(o8 101 16777215 s b).length:=rfl;have e2:(qL s b).length=(G9 80 4000 (o8 101 16777215 s b) (eF 101 2 4000 s b)).length:=rfl;refine ze func386 ntmps386 λ_ hs=>?_;repeat' first|refine Yz ?_|intro
 rw[NZ,UX,NY,NW,UW,JL];have hX:=JS (c:=101) (many:=2) (most:=4000) (s:=s) (b:=b) dc;rw[JL] at hX;rw[tN,oH];have hO:jF s b=(decide (fG (qL s b)=0)&&(!jG s b&&decide ((uX s b).length≠1))):=rfl;rw[hO];generalize uX s b=X at *;generalize qL s b=t at *;generalize nE s b=S2 at *;generalize jG s b=B2 at *;have hml:(X.map str).length=X.length:=llm _;by_cases hE:fG t=0
 rotate_left
 ·rw[dZ hE,Bool.false_and];repeat' first|refine Yz ?_|intro
  refine U6 (.tup [.sl 2 [] none,Z9 eD,d9 false]) [.var g 311 (F7 S2 B2)] ?_ ⟨rfl,rfl⟩ ?_
  focus
   exact XL
  exact u7
 rw[dT hE,Bool.true_and];repeat' first|refine Yz ?_|intro
 cases B2;rotate_left
 ·repeat' first|refine Yz ?_|intro
  refine U6 (.tup [.sl 2 [] none,Z9 eD,d9 false]) [.var g 311 (F7 S2 true)] ?_ ⟨rfl,rfl⟩ ?_
  focus
   exact XL
  exact u7
 repeat' first|refine Yz ?_|intro
 rcases X with _|⟨k,_|⟨v,_|⟨w,X⟩⟩⟩
 ·repeat' first|refine Yz ?_|intro
  refine U6 (.tup [.sl 2 [] none,Z9 (jH t),d9 true]) [.var g 311 (F7 S2 false)] ?_ ⟨rfl,rfl⟩ ?_
  focus
   exact a4E
  exact u7
 ·repeat' first|refine Yz ?_|intro
  refine U6 (.tup [.sl 2 [] none,Z9 eD,d9 false]) [.var g 311 (F7 S2 false)] ?_ ⟨rfl,rfl⟩ ?_
  focus
   exact XL
  exact u7
 ·repeat' first|refine Yz ?_|intro
  refine U6 (.tup [.sl 2 [.agg 2 [str k,str v]] none,Z9 (jH t),d9 true]) [.var g 311 (F7 S2 false)] ?_ ⟨rfl,rfl⟩ ?_
  focus
   exact λ_ _ _ h=>h
  exact u7
 simp at hX;omega⟩
def U5 (s:Bs):Bs:=o8 109 8 s false
def bI (s:Bs):Bool:=N9 109 2000 s false
def R5 (s:Bs):Bs:=nE (U5 s) (bI s)
def Z0 (s:Bs):Bool:=jG (U5 s) (bI s)
def BS (s:Bs):Int:=U7 (nE (R5 s) (Z0 s)) (jG (R5 s) (Z0 s))
def JM (s:Bs):Gp:=⟨L9 109 2000 s false,tN (U5 s) (bI s),tN (R5 s) (Z0 s),oH (U5 s) (bI s),oH (R5 s) (Z0 s)⟩
def EW (s:Bs):Bool:=jF (U5 s) (bI s)&&(jF (R5 s) (Z0 s)&&decide (BS s=0))
def nI (s:Bs):Gp:=if EW s=true then JM s else pX
def mG (s:Bs):Int:=if EW s=true then 0 else 10
theorem UV :o8 109 8 s false=U5 s:=rfl
theorem Gg :N9 109 2000 s false=bI s:=rfl
theorem UU :nE (U5 s) (bI s)=R5 s:=rfl
theorem UT :jG (U5 s) (bI s)=Z0 s:=rfl
theorem Gt (s:Bs):(U5 s).length<=s.length/\(R5 s).length<=s.length:=by
 have h1:=(aH 109 8 s false).1;have h2:=(NK (U5 s) (bI s)).2.1;rw[UV] at h1;rw[UU] at h2;exact⟨h1,om⟩
theorem zZ:Imp (.tup [.agg 9 [.lit (.int .i64 0),.lit (.slice none 0 0),.lit (.slice none 0 0),.agg 3 [.lit (.int .i64 0),.lit (.int .i64 0),.lit (.slice none 0 0)],.agg 3 [.lit (.int .i64 0),.lit (.int .i64 0),.lit (.slice none 0 0)]],int 10]) (.tup [eZ pX,int 10]):=
 (inferInstance:ImpR _ (.tup [.agg 9 [int 0,.sl 2 [] none,.sl 2 [] none,.agg 3 [int 0,int 0,.sl 32 [] none],.agg 3 [int 0,int 0,.sl 32 [] none]],int 10])).imp
instance a5D :Ans prog GL 329 [str s] (s.length<=1000000000) (.tup [eZ (nI s),int (mG s)]):=⟨λhl=>by
 obtain⟨l1,l2⟩:=Gt s;have e1:(U5 s).length=(o8 109 8 s false).length:=rfl;have e2:(R5 s).length=(nE (o8 109 8 s false) (N9 109 2000 s false)).length:=rfl;refine ze func329 ntmps329 λ_ hs=>?_;repeat' first|refine Yz ?_|intro
 refine H6 (args:=[str s]) [] _ (by rw[hs];exact wH) (λu m1 hh=>?_) lpr;obtain⟨gr,rfl,rfl⟩:=hh;repeat' first|refine Yz ?_|intro
 rw[UV,Gg,UU,UT];have hE:BS s=U7 (nE (R5 s) (Z0 s)) (jG (R5 s) (Z0 s)):=rfl;have hV:JM s=⟨L9 109 2000 s false,tN (U5 s) (bI s),tN (R5 s) (Z0 s),oH (U5 s) (bI s),oH (R5 s) (Z0 s)⟩:=rfl;have hK:EW s=(jF (U5 s) (bI s)&&(jF (R5 s) (Z0 s)&&decide (BS s=0))):=rfl;rw[nI,mG,hK,hV,hE];cases h1:jF (U5 s) (bI s)
 ·repeat' first|refine Yz ?_|intro
  refine F9 ?_;exact zZ
 cases h2:jF (R5 s) (Z0 s)
 ·repeat' first|refine Yz ?_|intro
  refine F9 ?_;exact zZ
 repeat' first|refine Yz ?_|intro
 by_cases h3:U7 (nE (R5 s) (Z0 s)) (jG (R5 s) (Z0 s))=0
 ·rw[dT h3];exact Z5
 rw[dZ h3];repeat' first|refine Yz ?_|intro
 refine F9 ?_;exact zZ⟩
class RgSl (a:AV)(l:List Ent):Prop where
 imp:ImpT a (.sl 2 (l.map D5) none)
theorem a4H {n:Int}{a b p q:AV}{l r:List Ent}[h1:RgSl a l][h2:RgSl b r]:Imp (.tup [.agg 9 [int n,a,b,p,q],int 0]) (.tup [.agg 9 [int n,.sl 2 (l.map D5) none,.sl 2 (r.map D5) none,p,q],int 0]):=
 have:=h1.imp;have:=h2.imp
 ImpR.imp
instance : RgSl (.lit (.slice none 0 0)) [] := ⟨(inferInstance : ImpT _ (.sl 2 [] none))⟩
instance {k v:Bs}:RgSl (.sl 2 [.agg 2 [str k,str v]] none) [⟨k,v⟩]:=⟨(inferInstance:ImpT _ (.sl 2 [.agg 2 [str k,str v]] none))⟩
theorem a0R :jG s true=true:=by
 have h1:qM s true=true:=by
  unfold qM eF yL F4;rw[zL];rfl
 unfold jG F4;rw[h1,zL];rfl
theorem a1J (h:U7 s b=0):b=false:=by
 cases b
 ·rfl
 unfold U7 at h;rw[if_pos (.inl rfl)] at h;cases h
theorem Fx :decide (fG s=0)=mE s:=by
 unfold fG;cases mE s <;> rfl
instance a5G :Ans prog GL 344 [str s] (s.length<=1000000000) (.tup [eZ (nI s),int (mG s)]):=⟨λhl=>by
 obtain⟨l1,l2⟩:=Gt s;obtain⟨l3,l4,l5⟩:=NK (U5 s) (bI s);obtain⟨l6,l7,l8⟩:=NK (R5 s) (Z0 s);have f1:o8 109 8 s false=U5 s:=rfl;have e1:(U5 s).length=(o8 109 8 s false).length:=rfl;have e2:(nG (U5 s) (bI s)).length=(o8 101 16777215 (o8 109 8 s false) (N9 109 2000 s false)).length:=rfl;have e3:(R5 s).length=(o8 80 4000 (o8 101 16777215 (o8 109 8 s false) (N9 109 2000 s false)) (eF 101 2 4000 (o8 109 8 s false) (N9 109 2000 s false))).length:=rfl;have e4:(nG (R5 s) (Z0 s)).length=(o8 101 16777215 (o8 80 4000 (o8 101 16777215 (o8 109 8 s false) (N9 109 2000 s false)) (eF 101 2 4000 (o8 109 8 s false) (N9 109 2000 s false))) (F4 80 4000 (o8 101 16777215 (o8 109 8 s false) (N9 109 2000 s false)) (eF 101 2 4000 (o8 109 8 s false) (N9 109 2000 s false)))).length:=rfl;refine ze func344 ntmps344 λ_ hs=>?_;repeat' first|refine Yz ?_|intro
 rw[UV,Gg,NZ (s:=U5 s),UX (s:=U5 s),NY (s:=U5 s),NW (s:=U5 s),UW (s:=U5 s),JL (s:=U5 s),UU,UT,NZ (s:=R5 s),UX (s:=R5 s),NY (s:=R5 s),NW (s:=R5 s),UW (s:=R5 s),JL (s:=R5 s)];have hE:BS s=U7 (nE (R5 s) (Z0 s)) (jG (R5 s) (Z0 s)):=rfl;have hV:JM s=⟨L9 109 2000 s false,tN (U5 s) (bI s),tN (R5 s) (Z0 s),oH (U5 s) (bI s),oH (R5 s) (Z0 s)⟩:=rfl;have hK:EW s=(jF (U5 s) (bI s)&&(jF (R5 s) (Z0 s)&&decide (BS s=0))):=rfl;rw[nI,mG,hK,hV,hE];by_cases h3:U7 (nE (R5 s) (Z0 s)) (jG (R5 s) (Z0 s))=0
 rotate_left
 ·rw[dZ h3,Bool.and_false,Bool.and_false];repeat' first|refine Yz ?_|intro
  refine F9 ?_;exact zZ
 have b2:jG (R5 s) (Z0 s)=false:=a1J h3;have b1:jG (U5 s) (bI s)=false:=by
  rw[UT];cases hb:Z0 s
  ·rfl
  rw[hb,a0R] at b2;cases b2
 have o1:jF (U5 s) (bI s)=(mE (qL (U5 s) (bI s))&&decide ((uX (U5 s) (bI s)).length≠1)):=by
  unfold jF;rw[Fx,b1];rfl
 have o2:jF (R5 s) (Z0 s)=(mE (qL (R5 s) (Z0 s))&&decide ((uX (R5 s) (Z0 s)).length≠1)):=by
  unfold jF;rw[Fx,b2];rfl
 have hX1:=JS (c:=101) (many:=2) (most:=4000) (s:=U5 s) (b:=bI s) dc;have hX2:=JS (c:=101) (many:=2) (most:=4000) (s:=R5 s) (b:=Z0 s) dc;rw[JL] at hX1 hX2;rw[dT h3,Bool.and_true,tN,tN,oH,oH,o1,o2];generalize uX (U5 s) (bI s)=X1 at *;generalize uX (R5 s) (Z0 s)=X2 at *;generalize qL (U5 s) (bI s)=t1 at *;generalize qL (R5 s) (Z0 s)=t2 at *;generalize L9 109 2000 s false=n at *;have hne:∀ (x:Bs),decide (([x]:List Bs).length≠1)=false:=λ_=>rfl;have hn0:decide (([]:List Bs).length≠1)=true:=rfl;have hn2:∀ (x y:Bs),decide (([x,y]:List Bs).length≠1)=true:=λ_ _=>rfl;rcases X1 with _|⟨k,_|⟨v,_|⟨w,X1⟩⟩⟩
 rotate_left
 ·rw[hne,Bool.and_false,Bool.false_and];repeat' first|refine Yz ?_|intro
  refine F9 ?_;exact zZ
 rotate_left
 ·simp at hX1;omega
 all_goals
  rcases X2 with _|⟨k2,_|⟨v2,_|⟨w2,X2⟩⟩⟩
  rotate_left
  focus
   rw[hne,Bool.and_false,Bool.and_false];repeat' first|refine Yz ?_|intro
   refine F9 ?_;exact zZ
  rotate_left
  focus
   simp at hX2;omega
  all_goals
   first|rw[hn0,Bool.and_true]|rw[hn2,Bool.and_true]
   try rw[hn0]
   try rw[hn2]
   try rw[Bool.and_true]
   repeat' first|refine Yz ?_|intro
   cases hr1:mE t1
   focus
    repeat' first|refine Yz ?_|intro
    refine F9 ?_;exact zZ
   cases hr2:mE t2
   focus
    repeat' first|refine Yz ?_|intro
    refine F9 ?_;exact zZ
   repeat' first|refine Yz ?_|intro
   refine F9 ?_;simp only[Bool.and_self,if_true,Er];exact a4H⟩
end
end Go.Proofs.Z

namespace Go.Proofs.Z
open Go Go.RowKit Tw Av

structure PG (p:Prf):Prop where
 a:0<=p.a/\p.a<=2000
 m:0<=p.m/\p.m<=2000
 l:p.p.length<=16
theorem XO (h:Hsh):W9 h.l=h:=by
 unfold W9;rw[dif_pos h.len]
theorem a3F (l:List Hsh):(l.map λh=>h.l).map W9=l:=by
 rw[List.map_map]
 conv=>rhs;rw[<- List.map_id l]
 exact List.map_congr_left λh _=>XO h
theorem Fy {p:Prf}(h:PG p)(r:Bs):tQ (aR p++r)=p.p.map (λh=>h.l)/\BQ (aR p++r)=(if r=[] then 0 else 10)/\JJ (aR p++r)=p:=by
 obtain⟨⟨h1,h2⟩,⟨h3,h4⟩,h5⟩:=h;have hB:aR p++r=D7 105 p.a++(D7 109 p.m++(O8 112 (p.p.map λh=>h.l)++r)):=by
  unfold aR;simp only[List.append_assoc]
 have hall:∀ s∈p.p.map (λh=>h.l),(s.length:Int)<=32/\s.length<=16777215:=λs hs=>by
  obtain⟨q,_,rfl⟩:=List.mem_map.1 hs;rw[q.len];decide
 obtain⟨a1,a2,a3⟩:=tX (c:=105) (most:=2000) (n:=p.a) (r:=D7 109 p.m++(O8 112 (p.p.map λh=>h.l)++r)) dc dc h1 h2 dc;obtain⟨b1,b2,b3⟩:=tX (c:=109) (most:=2000) (n:=p.m) (r:=O8 112 (p.p.map λh=>h.l)++r) dc dc h3 h4 dc;obtain⟨d1,d2,d3⟩:=OH (c:=112) (many:=16) (most:=32) (l:=p.p.map λh=>h.l) (r:=r) dc dc (by rw[llm];omega) hall (by
  have:=GH (c:=112) (n:=32) (l:=p.p.map λh=>h.l) (λs hs=>by have:=hall s hs;omega) dc;rw[llm] at this;omega)
 have s1:mD (aR p++r)=D7 109 p.m++(O8 112 (p.p.map λh=>h.l)++r):=by unfold mD;rw[hB,a2]
 have t1:qN (aR p++r)=false:=by unfold qN;rw[hB,a3]
 have s2:iP (aR p++r)=O8 112 (p.p.map λh=>h.l)++r:=by unfold iP;rw[s1,t1,b2]
 have t2:kX (aR p++r)=false:=by unfold kX;rw[s1,t1,b3]
 have hL:tQ (aR p++r)=p.p.map (λh=>h.l):=by unfold tQ;rw[s2,t2,d1]
 refine⟨hL,?_,?_⟩
 ·unfold BQ;rw[s2,t2,d2,d3];unfold U7;by_cases hr:r=[]
  ·simp[hr]
  simp[hr]
 unfold JJ;rw[hL,a3F,s1,t1,b1,hB,a1]
theorem a1s (p:Prf):(p.p.map λh=>h.l).all mO=true:=by
 rw[List.all_eq_true];intro s hs;obtain⟨q,_,rfl⟩:=List.mem_map.1 hs;exact dT q.len
theorem UN {p:Prf}(h:PG p):jH (aR p)=p/\fG (aR p)=0/\fG (aR p++[120])=10:=by
 obtain⟨a1,a2,a3⟩:=Fy h [];obtain⟨b1,b2,b3⟩:=Fy h [120];rw[List.append_nil] at a1 a2 a3;have hk:mE (aR p)=true:=by
  unfold mE;rw[a1,a2,a1s];rfl
 have hk2:mE (aR p++[120])=false:=by
  unfold mE;rw[b2,Bool.and_eq_false_iff];exact .inr rfl
 unfold jH fG;rw[if_pos hk,if_pos hk,hk2,a3];exact⟨rfl,rfl,rfl⟩
theorem Jf {p:Prf}(h:PG p):(aR p).length<=4000:=by
 have h1:(digits p.a.toNat).length<=8:=CY 8 _;have h2:(digits p.m.toNat).length<=8:=CY 8 _;have h3:=h.l;have hall:∀ s∈p.p.map (λh=>h.l),s.length<=32:=λs hs=>by
  obtain⟨q,_,rfl⟩:=List.mem_map.1 hs;rw[q.len];exact Nat.le_refl _
 have h4:=GH (c:=112) (n:=32) hall dc;rw[llm] at h4;have e:aR p=r9 105 (digits p.a.toNat)++r9 109 (digits p.m.toNat)++r9 112 ((p.p.map λh=>h.l).flatMap (r9 112)):=rfl;rw[e,uT om,uT om,uT om];simp only[List.length_append,List.length_cons];omega
structure SG (l:List Ent)(p:Prf):Prop where
 n:l.length<=1
 f:∀ x∈l,x.key.length<=4000/\x.val.length<=4000
 p:PG p
theorem Eo {l:List Ent}{p:Prf}{r:Bs}(h:SG l p):jF (bA l p++r) false=true/\tN (bA l p++r) false=l/\oH (bA l p++r) false=p/\nE (bA l p++r) false=r/\jG (bA l p++r) false=false:=by
 have hB:bA l p++r=O8 101 (iB l)++(r9 80 (aR p)++r):=by
  unfold bA;simp only[List.append_assoc]
 have hsT:(iB l).length<=2:=by rw[EO];have:=h.n;omega
 have hall:∀ s∈iB l,s.length<=4000:=λs hs=>by
  unfold iB at hs;obtain⟨x,hx,hs⟩:=List.mem_flatMap.1 hs;have:=h.f x hx;simp only[List.mem_cons,List.not_mem_nil,or_false] at hs;rcases hs with rfl|rfl
  ·exact this.1
  exact this.2
 have hps:=Jf h.p;obtain⟨a1,a2,a3⟩:=OH (c:=101) (many:=2) (most:=4000) (l:=iB l) (r:=r9 80 (aR p)++r) dc dc om (λs hs=>by have:=hall s hs;omega) (by
  have:=GH (c:=101) hall dc;omega)
 obtain⟨b1,b2,b3⟩:=vF (c:=80) (most:=4000) (s:=aR p) (r:=r) dc dc om om;have s1:nG (bA l p++r) false=r9 80 (aR p)++r:=by unfold nG;rw[hB,a2]
 have t1:qM (bA l p++r) false=false:=by unfold qM;rw[hB,a3]
 have hX:uX (bA l p++r) false=iB l:=by unfold uX;rw[hB,a1]
 have hT:qL (bA l p++r) false=aR p:=by unfold qL;rw[s1,t1,b1]
 have hS:nE (bA l p++r) false=r:=by unfold nE;rw[s1,t1,b2]
 have hb:jG (bA l p++r) false=false:=by unfold jG;rw[s1,t1,b3]
 obtain⟨q1,q2,_⟩:=UN h.p;have hne:(iB l).length≠1:=by rw[EO];omega
 have hk:jF (bA l p++r) false=true:=by
  unfold jF;rw[hT,hb,hX,q2,dT hne];rfl
 refine⟨hk,?_,?_,hS,hb⟩
 ·unfold tN;rw[if_pos hk,hX];have hn:=h.n;rcases l with _|⟨x,_|⟨y,l⟩⟩
  ·rfl
  ·rfl
  simp at hn
 unfold oH;rw[if_pos hk,hT,q1]
structure GG (g:Gp):Prop where
 n:0<=g.n/\g.n<=2000
 a:SG g.l g.a
 b:SG g.r g.b
theorem Gs {g:Gp}(h:GG g):nI (mW g)=g/\mG (mW g)=0:=by
 have hB:mW g=D7 109 g.n++(bA g.l g.a++(bA g.r g.b++[])):=by
  unfold mW;simp only[List.append_assoc,List.append_nil]
 obtain⟨a1,a2,a3⟩:=tX (c:=109) (most:=2000) (n:=g.n) (r:=bA g.l g.a++(bA g.r g.b++[])) dc dc h.n.1 h.n.2 dc;obtain⟨b1,b2,b3,b4,b5⟩:=Eo (r:=bA g.r g.b++[]) h.a;obtain⟨d1,d2,d3,d4,d5⟩:=Eo (r:=[]) h.b;have s1:U5 (mW g)=bA g.l g.a++(bA g.r g.b++[]):=by unfold U5;rw[hB,a2]
 have t1:bI (mW g)=false:=by unfold bI;rw[hB,a3]
 have s2:R5 (mW g)=bA g.r g.b++[]:=by unfold R5;rw[s1,t1,b4]
 have t2:Z0 (mW g)=false:=by unfold Z0;rw[s1,t1,b5]
 have hE:BS (mW g)=0:=by unfold BS;rw[s2,t2,d4,d5];rfl
 have hV:JM (mW g)=g:=by
  unfold JM;rw[s1,t1,s2,t2,b2,b3,d2,d3,hB,a1]
 have hk:EW (mW g)=true:=by
  unfold EW;rw[s1,t1,s2,t2,b1,d1,hE];rfl
 unfold nI mG;rw[if_pos hk,if_pos hk,hV];exact⟨rfl,rfl⟩
theorem SS:PG eD:=⟨dc,dc,dc⟩
end Go.Proofs.Z



namespace Go.Proofs.Z
open Go Go.RowKit Tw Av Go.Proofs.Tryz
section
variable {k:Bs}{l:List Bs}
theorem Mj (k:Bs):(nQ k).length=64:=by rw[nQ,ZJ];simp[zeros]
theorem a2T (a:Bs):uA [a]=bH a:=by simp[uA]
theorem a2S (a b:Bs):uA [a,b]=bH (a++b):=by simp[uA]
abbrev wQ (l:Bs):AV:=.agg 64 (l.map A7)
instance b6J :Ans prog GL 391 [str k] (k.length<=1000000) (wQ (nQ k)):=⟨λhk=>by
 refine ze func391 ntmps391 λ_ hs=>?_;repeat' first|refine O ?_|intro
 refine w9 (λh1=>?_) (λh1=>?_)
 ·have:LenLe k 1000000:=⟨hk⟩;repeat' first|refine O ?_|intro
  rw[a2T];refine RU (l:=zeros 64) (a:=(bH k).l) rfl ?_;repeat' first|refine O ?_|intro
  refine j6 ?_;rw[nQ,if_pos om];rfl
 repeat' first|refine O ?_|intro
 refine RU (l:=zeros 64) (a:=k) rfl ?_;repeat' first|refine O ?_|intro
 refine j6 ?_;rw[nQ,if_neg om];rfl⟩
theorem a2l {g:Nat}{a b:UInt8}{T:TypeId}:Av.Spec prog GL 420 [A7 a,ptr g] [.var g T (A7 b)] λu m=>u=A7 (a ^^^ b)/\m=[.var g T (A7 b)]:=by
 refine ze func420 ntmps420 λ_ hs=>?_;repeat' first|refine O ?_|intro
 exact l9 [.var g T (A7 b)] ⟨rfl,rfl⟩ slr
theorem Xw {l:Bs}{b:UInt8}{i:Nat}(h:i<l.length):(U1 b (l.take i)++l.drop i).set i (l[i] ^^^ b)=U1 b (l.take (i+1))++l.drop (i+1):=by
 have h1:(U1 b (l.take i)).length=i:=by simp[U1];omega
 rw[List.set_append,if_neg om,h1,Nat.sub_self,List.drop_eq_getElem_cons h,List.set_cons_zero,List.take_succ_eq_append_getElem h,U1,U1,List.map_append,laa];rfl
theorem Dq {l:Bs}(hl:l.length=64)(b:UInt8)(B:Int)(hB:B=b.toNat):SpecE prog GL 392 [wQ l,.lit (.int .u8 B)] (str (U1 b l)):=by
 subst hB;refine ze func392 ntmps392 λ_ hs=>?_;repeat' first|refine O ?_|intro
 rename_i g2 g3;refine Y3 (vs:=[.pointer (some ⟨g3,0,none⟩)]) ?_;repeat' first|refine O ?_|intro
 refine y9 (α:=Nat) (λi=>[(2,ptr g2),(5,E5 420 [.pointer (some ⟨g3,0,none⟩)]),(9,wQ l),(10,int i)])
  (λi=>[.var g3 5 (A7 b),.var g2 297 (wQ (U1 b (l.take i)++l.drop i))]) (λi=>i<=64) (λi=>64-i) 0 zc ?_ (Nat.zero_le _) ?_
 ·exact u7
 intro i hi;have hlen:(U1 b (l.take i)++l.drop i).length=64:=by simp[U1];omega
 repeat' first|refine O ?_|intro
 refine w9 (λhlt=>?_) (λhlt=>?_)
 ·have hil:i<l.length:=om
  repeat' first|refine O ?_|intro
  refine MC (ps:=l.map A7) (u:=A7 l[i]) i ?_ rfl om (by simp[hil]) (by intro p hp;obtain⟨c,_,rfl⟩:=List.mem_map.1 hp;rfl) rfl;repeat' first|refine O ?_|intro
  refine gU (args:=[A7 l[i]]) (cs:=[.pointer (some ⟨g3,0,none⟩)]) [.var g3 5 (A7 b)] _ (by rw[hs];exact a2l) (λu m1 hh=>?_) lpr;obtain⟨rfl,rfl⟩:=hh;repeat' first|refine O ?_|intro
  refine O1 i ?_;refine kD (j:=i) (ps:=(U1 b (l.take i)++l.drop i).map A7) (by simp only[List.length_map];omega) ?_;repeat' first|refine O ?_|intro
  rw[show ((U1 b (l.take i)++l.drop i).map A7).set i (A7 (l[i] ^^^ b))=((U1 b (l.take i)++l.drop i).set i (l[i] ^^^ b)).map A7 by rw[List.map_set],Xw hil];refine o9 (i+1) zc ?_ om om;exact u7
 obtain rfl:i=64:=by omega
 rw[List.take_of_length_le om,List.drop_of_length_le om,List.append_nil];exact J7
theorem ImpC.one {n:Nat}{ps:List AV}:ImpC (.agg n [.agg n ps]) (.agg n ps):=λok w cs h=>by
 rw[RC] at h;obtain⟨h1,h2⟩:=h;rw[RCs] at h2;obtain⟨c1,c2,rfl,h3,h4⟩:=h2;rw[RCs] at h4;subst h4
 rwa [List.append_nil]
theorem a0A (hk:k.length<=1000000):Av.Spec prog GL 333 [str k] [] λu m=>∃ g,u=ptr g/\m=[.var g 431 (wQ (nQ k))]:=by
 refine ze func333 ntmps333 λ_ hs=>?_;repeat' first|refine O ?_|intro
 rename_i g;refine xA (g:=g) (v':=wQ (nQ k)) ImpC.one ?_;exact l9 [.var g 431 (wQ (nQ k))] ⟨g,rfl,rfl⟩ slr
theorem yS (b:UInt8)(l:Bs):(U1 b l).length=l.length:=llm _
theorem a6s {i:Nat}(h:i<l.length):(l.take (i+1)).flatten=(l.take i).flatten++l[i]:=by
 rw[List.take_succ_eq_append_getElem h,List.flatten_append];simp
theorem Qh (i:Nat):(l.take i).flatten.length<=l.flatten.length:=by
 have h:=congrArg (λq=>(List.flatten q).length) (List.take_append_drop i l);simp only[List.flatten_append,List.length_append] at h;omega
theorem a0p {g:Nat}{kb:Bs}{id:Option Value}(hk:kb.length=64)(hl:l.flatten.length<=1000000000000)(hn:l.length<=1000000000000):Av.Spec prog GL 334 [ptr g,.sl 1 (l.map str) id] [.var g 431 (wQ kb)] λu m=>u=hA (bH (U1 92 kb++(bH (U1 54 kb++l.flatten)).l))/\m=[]:=by
 have hlm:(l.map str).length=l.length:=llm _;refine ze func334 ntmps334 λ_ hs=>?_;repeat' first|refine O ?_|intro
 refine H6 [] _ (by rw[hs];exact oZ) (λu m1 hh=>?_) lpr;obtain⟨gh,rfl,rfl⟩:=hh;repeat' first|refine O ?_|intro
 refine H6 [] _ (by rw[hs];exact Dq hk 54 54 rfl) (λu m1 hh=>?_) lpr;obtain⟨rfl,rfl⟩:=hh;refine H6 [.var gh 447 (bM h0 (zeros 64) 0)] _ (by rw[hs];exact QA (M:=[]) (s:=U1 54 kb) HS.nil (by simp[yS];omega)) (λu m1 hh=>?_) lpr;obtain⟨rfl,x0,b0,hH0,rfl⟩:=hh;rw[List.nil_append] at hH0 ⊢;repeat' first|refine O ?_|intro
 rename_i g4 g5;refine y9 (α:=Nat × H8 × Bs) (λq=>[(4,ptr g4),(5,ptr g5),(6,ptr gh),(20,.sl 1 (l.map str) id),(21,int (l.map str).length),(22,int q.1)])
  (λq=>[.var gh 447 (bM q.2.1 q.2.2 (U1 54 kb++(l.take q.1).flatten).length),.var g5 297 (wQ kb),.var g4 40 (hA E9)]) (λq=>q.1<=l.length/\HS (U1 54 kb++(l.take q.1).flatten) q.2.1 q.2.2) (λq=>l.length-q.1) (0,x0,b0) zc ?_ ⟨Nat.zero_le _,by simpa using hH0⟩ ?_
 ·dsimp only;rw[List.take_zero,List.flatten_nil,List.append_nil];exact u7
 rintro⟨i,x,b⟩ ⟨hi,hH⟩;dsimp only at hi hH ⊢;repeat' first|refine O ?_|intro
 have hle:=Qh (l:=l) i;refine w9 (λhlt=>?_) (λhlt=>?_)
 ·have hil:i<l.length:=om
  have hle2:=Qh (l:=l) (i+1);have hfn:=a6s hil;rw[hfn,lla] at hle2;repeat' first|refine O ?_|intro
  refine H6 [.var gh 447 (bM x b (U1 54 kb++(l.take i).flatten).length)] _ (by rw[hs];exact QA (s:=l[i]) hH (by rw[lla,yS];omega)) (λu m1 hh=>?_) lpr;obtain⟨rfl,x',b',hH',rfl⟩:=hh;rw[laa,<- hfn] at hH' ⊢;repeat' first|refine O ?_|intro
  refine o9 (i+1,x',b') zc ?_ ⟨hil,hH'⟩ (by dsimp only;omega);exact u7
 obtain rfl:i=l.length:=by omega
 rw[List.take_length] at hH ⊢;repeat' first|refine O ?_|intro
 refine H6 [] _ (by rw[hs];exact Dq hk 92 92 rfl) (λu m1 hh=>?_) lpr;obtain⟨rfl,rfl⟩:=hh;repeat' first|refine O ?_|intro
 refine H6 [.var gh 447 (bM x b (U1 54 kb++l.flatten).length)] _ (by rw[hs];exact Nt hH (by rw[lla,yS];omega)) (λu m1 hh=>?_) lpr;obtain⟨rfl,rfl⟩:=hh;have:LenLe (U1 92 kb) 64:=⟨by rw[yS];omega⟩;repeat' first|refine O ?_|intro
 rw[a2S];repeat' first|refine O ?_|intro
 exact l9 [] ⟨rfl,rfl⟩ (List.nil_sublist _)
instance b6H {s:Bs}:Ans prog GL 239 [str k,str s] (k.length<=1000000/\s.length<=1000000000) (hA (JH k s)):=⟨λhp=>by
 obtain⟨hk,hsl⟩:=hp;refine ze func239 ntmps239 λ_ hs=>?_;repeat' first|refine O ?_|intro
 refine H6 [] _ (by rw[hs];exact a0A hk) (λu m1 hh=>?_) lpr;obtain⟨g,rfl,rfl⟩:=hh;repeat' first|refine O ?_|intro
 refine H6 [.var g 431 (wQ (nQ k))] _ (by rw[hs];exact a0p (l:=[s]) (id:=none) (Mj k) (by simpa using by omega) sm) (λu m1 hh=>?_) lpr;obtain⟨rfl,rfl⟩:=hh;repeat' first|refine O ?_|intro
 refine j6 ?_;rw[JH];simp[D8]⟩
end

section
variable {c k:Bs}{r:Hsh}{h p t:Int}{f:Bool}{xs:List AV}{l:List Sta}
theorem a4f (k:Bs){i:Nat}(h:i<64):(nQ k).getD i 0=if i<(if 64<k.length then (bH k).l else k).length then (if 64<k.length then (bH k).l else k).getD i 0 else 0:=by
 have hl:(if 64<k.length then (bH k).l else k).length<=64:=by
  split
  ·rw[Hsh.len];omega
  omega
 have hz:(zeros 64).length=64:=by simp[zeros]
 have he:nQ k=(if 64<k.length then (bH k).l else k)++(zeros 64).drop (if 64<k.length then (bH k).l else k).length:=by rw[nQ,pK,hz,List.take_of_length_le hl]
 rw[he];generalize (if 64<k.length then (bH k).l else k)=q at *;by_cases hi:i<q.length
 ·rw[if_pos hi,List.getD,List.getD,List.getElem?_append_left hi]
 rw[if_neg hi,List.getD,List.getElem?_append_right om,zeros,List.drop_replicate,List.getElem?_replicate,if_pos om];rfl
theorem Cc {l:Bs}{b:UInt8}{i:Nat}(h:i<l.length):U1 b (l.take i)++[l[i] ^^^ b]=U1 b (l.take (i+1)):=by
 rw[List.take_succ_eq_append_getElem h,U1,U1,List.map_append];rfl
instance b7g {s:Bs}:Ans prog GL 163 [str k,str s] (k.length<=1000000/\s.length<=1000000000) (hA (JH k s)):=⟨λhp=>by
 obtain⟨hk,hsl⟩:=hp;have hkl:=Mj k;have hkt:=λi h=>a4f k (i:=i) h;refine ze func163 ntmps163 λ_ hs=>?_;repeat' first|refine O ?_|intro
 rename_i g4;refine IJ (α:=Unit) (λ_=>[(0,str (if 64<k.length then (bH k).l else k)),(1,str s),(4,ptr g4)]) (λ_=>[.var g4 40 (hA E9)]) ?_ (λ_=>?_)
 ·refine w9 (λh1=>?_) (λh1=>?_)
  ·have:LenLe k 1000000:=⟨hk⟩;repeat' first|refine O ?_|intro
   exact aZ () ⟨by rw[if_pos om];rfl,rfl,rfl,trivial⟩ slr
  repeat' first|refine O ?_|intro
  exact aZ () ⟨by rw[if_neg om];rfl,rfl,rfl,trivial⟩ slr
 generalize (if 64<k.length then (bH k).l else k)=q at *;generalize hK:nQ k=K at *;repeat' first|refine O ?_|intro
 refine Y4 5 (Imp.nil (k:=1)) ?_;refine Y4 6 (Imp.nil (k:=1)) ?_;refine P6 (λok w h=>h.full 5 1 none 0) ?_;refine P6 (λok w h=>h.full 5 1 none 0) ?_;refine y9 (α:=Nat × Value × Value) (λz=>[(0,str q),(1,str s),(4,ptr g4),(5,.sl 1 ((U1 54 (K.take z.1)).map A7) (some z.2.1)),(6,.sl 1 ((U1 92 (K.take z.1)).map A7) (some z.2.2)),(7,int z.1)])
  (λz=>[.tail 5 1 z.2.1,.tail 5 1 z.2.2,.var g4 40 (hA E9)]) (λz=>z.1<=64) (λz=>64-z.1) (0,.slice none 0 0,.slice none 0 0) zc slr (Nat.zero_le _) ?_
 rintro⟨i,v5,v6⟩ hi;dsimp only at hi ⊢;repeat' first|refine O ?_|intro
 refine w9 (λhlt=>?_) (λhlt=>?_)
 ·have hi64:i<64:=om
  have hc:=hkt i hi64;have hl5:(U1 54 (K.take i)).length=i:=by rw[yS,List.length_take];omega
  have hl6:(U1 92 (K.take i)).length=i:=by rw[yS,List.length_take];omega
  have hx5:=Cc (b:=54) (l:=K) (i:=i) om;have hx6:=Cc (b:=92) (l:=K) (i:=i) om;have hge:K[i]'(by omega)=K.getD i 0:=by simp[List.getD,show i<K.length by omega]
  rw[hge] at hx5 hx6;generalize hcc:K.getD i 0=c at *;repeat' first|refine O ?_|intro
  refine IJ (α:=Unit) (λ_=>[(0,str q),(1,str s),(4,ptr g4),(5,.sl 1 ((U1 54 (K.take i)).map A7) (some v5)),(6,.sl 1 ((U1 92 (K.take i)).map A7) (some v6)),(7,int i),(8,A7 c)]) (λ_=>[.tail 5 1 v5,.tail 5 1 v6,.var g4 40 (hA E9)]) ?_ (λ_=>?_)
  ·refine w9 (λh1=>?_) (λh1=>?_)
   ·have hiq:i<q.length:=om
    repeat' first|refine O ?_|intro
    refine vY (c:=c) (b:=q) i ?_ (by rw[hc,if_pos hiq];simp[List.getD,hiq]);repeat' first|refine O ?_|intro
    exact aZ () zc slr
   rw[hc,if_neg om];repeat' first|refine O ?_|intro
   exact aZ () zc slr
  repeat' first|refine O ?_|intro
  refine H7 (λv5'=>?_);repeat' first|refine O ?_|intro
  refine H7 (λv6'=>?_);repeat' first|refine O ?_|intro
  refine X4 5 (v':=.sl 1 ((U1 54 (K.take (i+1))).map A7) (some v5')) (Imp.of_eq (by rw[<- hx5,List.map_append])) ?_;refine X4 6 (v':=.sl 1 ((U1 92 (K.take (i+1))).map A7) (some v6')) (Imp.of_eq (by rw[<- hx6,List.map_append])) ?_;exact o9 (i+1,v5',v6') zc slr om (by dsimp only;omega)
 obtain rfl:i=64:=by omega
 rw[List.take_of_length_le om];have:LenLe (U1 54 K) 64:=⟨by rw[yS];omega⟩;have:LenLe (U1 92 K) 64:=⟨by rw[yS];omega⟩;have:LenLe s 1000000000:=⟨hsl⟩;repeat' first|refine O ?_|intro
 refine j6 ?_;rw[JH,hK];rfl⟩
instance c0s :Ans prog GL 240 [.agg 35 [str c,int h,int t,hA r]] (h<=9223372036854775807/\t<=9223372036854775807) (str (R3 ⟨c,h,t,r⟩)):=⟨λhp=>by
 obtain⟨h1,h2⟩:=hp;refine ze func240 ntmps240 λ_ hs=>?_;exact J7⟩
instance b7F :Ans prog GL 164 [.agg 35 [str c,int h,int t,hA r]] (h<=9223372036854775807/\t<=9223372036854775807) (str (R3 ⟨c,h,t,r⟩)):=⟨λhp=>by
 obtain⟨h1,h2⟩:=hp;refine ze func164 ntmps164 λ_ hs=>?_;exact J7⟩
theorem Ny (x:Hdr):(R3 x).length<=100000000:=by
 have h1:=(inferInstance:LenLe (r9 99 x.c++D7 104 x.h++D7 116 x.t++r9 114 x.r.l) _).out;unfold R3;omega
instance c1s :Ans prog GL 128 [str k,.agg 35 [str c,int h,int t,hA r]] (k.length<=1000000/\h<=9223372036854775807/\t<=9223372036854775807) (hA (cK k ⟨c,h,t,r⟩)):=⟨λhp=>by
 obtain⟨h0,h1,h2⟩:=hp;have h3:=Ny ⟨c,h,t,r⟩;refine ze func128 ntmps128 λ_ hs=>?_;exact J7⟩
instance b7Q :Ans prog GL 71 [str k,.agg 35 [str c,int h,int t,hA r]] (k.length<=1000000/\h<=9223372036854775807/\t<=9223372036854775807) (hA (cK k ⟨c,h,t,r⟩)):=⟨λhp=>by
 obtain⟨h0,h1,h2⟩:=hp;have h3:=Ny ⟨c,h,t,r⟩;refine ze func71 ntmps71 λ_ hs=>?_;exact J7⟩
instance b6A :Ans prog GL 183 [.agg 35 [str c,int h,int t,hA r]] True (.agg 34 [int h,int t,hA r]):=⟨λ_=>by
 refine ze func183 ntmps183 λ_ hs=>?_;exact J7⟩
instance c0t :Ans prog GL 276 [str c,.agg 34 [int h,int t,hA r]] True (.agg 35 [str c,int h,int t,hA r]):=⟨λ_=>by
 refine ze func276 ntmps276 λ_ hs=>?_;exact J7⟩
instance b7G {X:AV}:Ans prog GL 349 [.agg 5 [str c,str k,int p,d9 f,X],.agg 34 [int h,int t,hA r]] True (.agg 35 [str c,int h,int t,hA r]):=⟨λ_=>by
 refine ze func349 ntmps349 λ_ hs=>?_;exact J7⟩
instance c1j :Ans prog GL 275 [.agg 35 [str c,int h,int t,hA r]] True (d9 (aO ⟨c,h,t,r⟩)):=⟨λ_=>by
 rcases c with _|⟨a,c⟩
 ·refine ze func275 ntmps275 λ_ hs=>?_;repeat' (first|refine W ?_|refine J8 ?_|refine lG ?_|intro _|refine D6 (λ_=>?_)|refine w9 ?_ ?_|refine nA ?_ ?_|refine X0 ?_ ?_|refine KS ?_ ?_)
  refine j6 ?_;simp[D8,aO]
 refine ze func275 ntmps275 λ_ hs=>?_;repeat' (first|refine W ?_|refine J8 ?_|refine lG ?_|intro _|refine D6 (λ_=>?_)|refine w9 ?_ ?_|refine nA ?_ ?_|refine X0 ?_ ?_|refine KS ?_ ?_)
 all_goals (refine j6 ?_;refine Ae ?_;simp only[aO,decide_eq_true_eq,Bool.false_eq_true,false_iff,List.length_cons] at *;omega)⟩
instance b7P :Ans prog GL 348 [.agg 35 [str c,int h,int t,hA r]] True (d9 (aO ⟨c,h,t,r⟩)):=⟨λ_=>by
 refine ze func348 ntmps348 λ_ hs=>?_;repeat' (first|refine W ?_|refine J8 ?_|refine lG ?_|intro _|refine D6 (λ_=>?_)|refine w9 ?_ ?_|refine nA ?_ ?_|refine X0 ?_ ?_|refine KS ?_ ?_)
 all_goals (refine j6 ?_;refine Ae ?_;simp only[aO,decide_eq_true_eq,Bool.false_eq_true,false_iff] at *;omega)⟩
instance c0B {h' t':Int}{r':Hsh}:Ans prog GL 277 [.agg 34 [int h,int t,hA r],.agg 34 [int h',int t',hA r']] True (d9 (fA ⟨h,t,r⟩ ⟨h',t',r'⟩)):=⟨λ_=>by
 refine ze func277 ntmps277 λ_ hs=>?_;repeat' (first|refine W ?_|refine J8 ?_|refine lG ?_|intro _|refine D6 (λ_=>?_)|refine w9 ?_ ?_|refine nA ?_ ?_|refine X0 ?_ ?_|refine KS ?_ ?_)
 all_goals (refine j6 ?_;refine Ae ?_;simp only[fA,decide_eq_true_eq,Bool.false_eq_true,false_iff] at *;omega)⟩
instance b9N {id:Option Value}[hx:Stas xs l]:Ans prog GL 94 [.sl 34 xs id] True (G8 (dK l)):=⟨λ_=>by
 have h:=hx.out;subst h;have hm:(l.map G8).length=l.length:=llm _;refine ze func94 ntmps94 λ_ hs=>?_;refine wF 0 (λhb=>?_);have hb:=nP hb;repeat' first|refine O ?_|intro
 refine w9 (λh1=>?_) (λh1=>?_)
 ·repeat' first|refine O ?_|intro
  refine j6 ?_;obtain rfl:l=[]:=List.eq_nil_of_length_eq_zero om;rfl
 repeat' first|refine O ?_|intro
 refine Y2 (l:=l) (f:=G8) (l.length-1) om ?_;repeat' first|refine O ?_|intro
 refine j6 ?_;rw[dK,List.getLastD_eq_getLast?,List.getLast?_eq_getElem?,List.getElem?_eq_getElem om];rfl⟩
instance b9L {id:Option Value}[Stas xs l]:Ans prog GL 39 [.agg 5 [str c,str k,int p,d9 f,.sl 34 xs id]] True (G8 (dK l)):=⟨λ_=>by
 refine ze func39 ntmps39 λ_ hs=>?_;exact J7⟩
instance b7B {id:Option Value}[hx:Stas xs l]:Ans prog GL 75 [.agg 5 [str c,str k,int p,d9 f,.sl 34 xs id]] True (G8 (dK l)):=⟨λ_=>by
 have h:=hx.out;subst h;have hm:(l.map G8).length=l.length:=llm _;refine ze func75 ntmps75 λ_ hs=>?_;refine MI 0 4 (λhb=>?_);have hb:=nP hb;repeat' first|refine O ?_|intro
 refine w9 (λh1=>?_) (λh1=>?_)
 ·repeat' first|refine O ?_|intro
  refine j6 ?_;obtain rfl:l=[]:=List.eq_nil_of_length_eq_zero om;rfl
 repeat' first|refine O ?_|intro
 refine Y2 (l:=l) (f:=G8) (l.length-1) om ?_;repeat' first|refine O ?_|intro
 refine j6 ?_;rw[dK,List.getLastD_eq_getLast?,List.getLast?_eq_getElem?,List.getElem?_eq_getElem om];rfl⟩
instance d0b {id:Option Value}{now:Int}[Stas xs l]:Ans prog GL 294 [.agg 5 [str c,str k,int p,d9 f,.sl 34 xs id],int now] (-4611686018427387904<=(dK l).t/\(dK l).t<=4611686018427387904/\-4611686018427387904<=p/\p<4611686018427387904) (d9 (nZ ⟨c,k,p,f,l⟩ now)):=⟨λhp=>by
 obtain⟨h1,h2,h3,h4⟩:=hp;refine ze func294 ntmps294 λ_ hs=>?_;cases f
 all_goals
  repeat' first|refine O ?_|intro
  refine j6 ?_;simp[D8,nZ]⟩
instance b8f {id:Option Value}{now:Int}[Stas xs l]:Ans prog GL 462 [.agg 5 [str c,str k,int p,d9 f,.sl 34 xs id],int now] (-4611686018427387904<=(dK l).t/\(dK l).t<=4611686018427387904/\-4611686018427387904<=p/\p<4611686018427387904) (d9 (nZ ⟨c,k,p,f,l⟩ now)):=⟨λhp=>by
 obtain⟨h1,h2,h3,h4⟩:=hp;refine ze func462 ntmps462 λ_ hs=>?_;cases f
 all_goals
  repeat' first|refine O ?_|intro
  refine j6 ?_;simp[D8,nZ]⟩
end

theorem a7I {xs:List AV}{id:Option Value}(hx:xs.length<=1073741824):Av.Spec prog GL 367 [.sl 34 xs id] [] (OwnK 103 34 xs):=by
 refine ze func367 ntmps367 λ_ hs=>?_;repeat' first|refine Wz ?_|intro
 refine Aw (λq c hq hc=>?_);repeat' first|refine Wz ?_|intro
 injection hc with hc
 subst hc;refine nA (λh=>?_) (λh=>?_)
 ·repeat' first|refine Wz ?_|intro
  exact l9 [] (.inl ⟨hq h,rfl,rfl⟩) (List.nil_sublist _)
 repeat' first|refine Wz ?_|intro
 refine Bg (λg=>?_);repeat' first|refine Wz ?_|intro
 refine BF (λg' c' hc'=>?_);repeat' first|refine Wz ?_|intro
 refine l9 [.buf g' 103 34 ([]++xs) c'] (.inr ⟨g',c',?_,rfl,?_⟩) slr
 ·simp[D8]
 simpa using hc'
theorem a4A {α:Type}{xs:List α}{i:Nat}{x:α}{p q:Nat}(h:i<=xs.length)(hp:p=xs.length-i)(hq:1<=q):over (over xs (i+1) ((xs.drop i).take p)) i ([x].take q)=xs.take i++x::xs.drop i:=Nc h hp hq
theorem a4x {α:Type}{xs:List α}{i q:Nat}{x z:α}{p r:Nat}(h:i<=xs.length)(hq:i+q=xs.length+1)(hp:p=q-1)(hr:1<=r):over (over (xs.take i++List.replicate q z) i ([x].take r)) (i+1) ((xs.drop i).take p)=xs.take i++x::xs.drop i:=Nb h hq hp hr
theorem a4t {x:AV}{idv:Option Value}:Av.Spec prog GL 366 [J2,int 0,.sl 34 [x] idv] [] (OwnK 103 34 [x]):=by
 refine ze func366 ntmps366 λ_ hs=>?_;repeat' first|refine Wz ?_|intro
 refine GZ 0 0 ?_;repeat' first|refine Wz ?_|intro
 refine ME (λg' c' hc'=>?_);repeat' first|refine Wz ?_|intro
 exact l9 [.buf g' 103 34 [x] c'] (.inr ⟨g',c',rfl,rfl,hc'⟩) sm
theorem a4s {g n c i:Nat}{xs:List AV}{x:AV}{idv:Option Value}(hn:xs.length=n)(hc:n<=c)(hi:i<=n)(hb:n<=1073741824):Av.Spec prog GL 366 [.lit (.slice (some ⟨g,0,none⟩) n c),int i,.sl 34 [x] idv] [.buf g 103 34 xs c] (OwnK 103 34 (xs.take i++x::xs.drop i)):=by
 subst hn;have hx1:([x]:List AV).length=1:=rfl;refine ze func366 ntmps366 λ_ hs=>?_;repeat' first|refine Wz ?_|intro
 refine GZ i xs.length ?_;repeat' first|refine Wz ?_|intro
 refine w9 (λhin=>?_) (λhin=>?_)
 ·repeat' first|refine Wz ?_|intro
  refine BF (λg' c' hc'=>?_);repeat' first|refine Wz ?_|intro
  have hin':i=xs.length:=om
  subst hin';refine l9 [.buf g' 103 34 (xs++[x]) c'] (.inr ⟨g',c',?_,?_,?_⟩) sm
  ·simp[D8]
  ·simp
  simpa using hc'
 repeat' first|refine Wz ?_|intro
 have hl:(xs.take i++x::xs.drop i).length=xs.length+1:=by simp;omega
 refine w9 (λhcap=>?_) (λhcap=>?_)
 ·obtain⟨q,hq⟩:∃ q,i+q=xs.length+1:=⟨xs.length+1-i,om⟩;repeat' first|refine Wz ?_|intro
  refine gQ 0 i ?_;repeat' first|refine Wz ?_|intro
  refine Xd (i:=i) q (λg' c' hc'=>?_);repeat' first|refine Wz ?_|intro
  refine gQ i (i+q) ?_;repeat' first|refine Wz ?_|intro
  refine Wt (j:=i) ?_;repeat' first|refine Wz ?_|intro
  apply zf [];exact zi;intro _ _;refine gQ (i+1) (i+q) ?_;exact j3 (p9 rfl rfl);repeat' first|refine Wz ?_|intro
  apply zf [];exact zi;intro _ _;refine gQ i xs.length ?_;exact j3 (p9 rfl rfl);apply jV [0,1];exact rfl;exact rfl;kernel_rfl;intro _ _;refine IC (j:=i+1) (j2:=i) ?_;exact j3 (p9 rfl rfl);exact rfl;exact rfl;repeat' first|refine Wz ?_|intro
  rw[a4x om hq om om];refine l9 [.buf g' 103 34 _ c'] (.inr ⟨g',c',?_,rfl,?_⟩) (List.singleton_sublist.2 List.mem_cons_self)
  ·rw[hl,<- hq];rfl
  omega
 repeat' first|refine Wz ?_|intro
 refine gQ 0 (xs.length+1) ?_;repeat' first|refine Wz ?_|intro
 refine gQ (i+1) (xs.length+1) ?_;apply DY (v:=d9 false) func412;kernel_rfl;exact rfl;kernel_rfl;kernel_rfl;exact rfl;exact rfl;exact rfl
 ·intro ok w cs hS hv;exact⟨_,a2B (b:=48) (tS:=97) 4 hS List.mem_cons_self hv,RVl rfl⟩
 repeat' first|refine Wz ?_|intro
 apply zf [];exact zi;intro _ _;refine gQ (i+1) (xs.length+1) ?_;exact j3 (p9 rfl rfl);repeat' first|refine Wz ?_|intro
 apply zf [];exact zi;intro _ _;refine gQ i (xs.length+1) ?_;exact j3 (p9 rfl rfl);apply jV [0];exact rfl;exact rfl;kernel_rfl;intro _ _;refine IC (j:=i+1) (j2:=i) ?_;exact j3 (p9 rfl rfl);exact rfl;exact rfl;repeat' first|refine Wz ?_|intro
 refine gQ i (xs.length+1) ?_;repeat' first|refine Wz ?_|intro
 refine Wt (j:=i) ?_;repeat' first|refine Wz ?_|intro
 rw[a4A om om om];refine l9 [.buf g 103 34 _ c] (.inr ⟨g,c,?_,rfl,?_⟩) sm
 ·rw[hl];rfl
 omega
end Go.Proofs.Z
