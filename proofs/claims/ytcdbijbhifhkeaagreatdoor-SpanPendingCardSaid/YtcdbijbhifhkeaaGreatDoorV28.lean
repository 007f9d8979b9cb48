/- . -/
import Derived.Test.YtcdbijbhifhkeaaGreatDoorV27
set_option maxHeartbeats 64000000
namespace Go.Proofs.Z
open Go Go.RowKit Tw Av Go.Proofs.Tryz
section
variable {s:Bs}
def nC (s:Bs):Bs:=l9 99 32 s false
def uJ (s:Bs):Bool:=F8 99 32 s false
def mZ (s:Bs):Bs:=l9 104 8 (nC s) (uJ s)
def uI (s:Bs):Bool:=O1 104 1099511627776 (nC s) (uJ s)
def iF (s:Bs):Bs:=l9 116 8 (mZ s) (uI s)
def lQ (s:Bs):Bool:=O1 116 1099511627776 (mZ s) (uI s)
def JG (s:Bs):Bs:=I7 114 32 (iF s) (lQ s)
def FI (s:Bs):Int:=X6 (l9 114 32 (iF s) (lQ s)) (F8 114 32 (iF s) (lQ s))
def CS (s:Bs):Hdr:=⟨I7 99 32 s false,N7 104 1099511627776 (nC s) (uJ s),N7 116 1099511627776 (mZ s) (uI s),Y2 (JG s)⟩
def oD (s:Bs):Bool:=decide ((JG s).length=32)&&(decide (FI s=0)&&bE (CS s))
def VS:Hdr:=⟨[],0,0,G8⟩
def bQ (s:Bs):Hdr:=if oD s=true then CS s else VS
def uH (s:Bs):Int:=if oD s=true then 0 else 10
theorem Km (s:Bs):(nC s).length<=s.length/\(mZ s).length<=s.length/\(iF s).length<=s.length:=by
 have h1:=(aU 99 32 s false).1;have h2:=(aU 104 8 (nC s) (uJ s)).1;have h3:=(aU 116 8 (mZ s) (uI s)).1;unfold iF;unfold mZ at *;unfold nC at *;exact⟨h1,om,om⟩
theorem Le :l9 99 32 s false=nC s:=rfl
theorem Ld :F8 99 32 s false=uJ s:=rfl
theorem Lc :l9 104 8 (nC s) (uJ s)=mZ s:=rfl
theorem Kz :O1 104 1099511627776 (nC s) (uJ s)=uI s:=rfl
theorem Ky :l9 116 8 (mZ s) (uI s)=iF s:=rfl
theorem Kw :O1 116 1099511627776 (mZ s) (uI s)=lQ s:=rfl
instance c0e :Ans prog GL 245 [str s] (s.length<=1000000000) (.tup [R4 (bQ s),int (uH s)]):=⟨λhl=>by
 obtain⟨l1,l2,l3⟩:=Km s;have e1:(nC s).length=(l9 99 32 s false).length:=rfl;have e2:(mZ s).length=(l9 104 8 (l9 99 32 s false) (F8 99 32 s false)).length:=rfl;have e3:(iF s).length=(l9 116 8 (l9 104 8 (l9 99 32 s false) (F8 99 32 s false)) (O1 104 1099511627776 (l9 99 32 s false) (F8 99 32 s false))).length:=rfl;refine zc func245 ntmps245 λ_ hs=>?_;repeat' first|refine Yz ?_|intro
 refine J6 (args:=[str s]) [] _ (by rw[hs];exact yM) (λu m1 hh=>?_) lpr;obtain⟨gr,rfl,rfl⟩:=hh;repeat' first|refine Yz ?_|intro
 rw[Le,Ld,Lc,Kz,Ky,Kw];have hX:JG s=I7 114 32 (iF s) (lQ s):=rfl;have hV:CS s=⟨I7 99 32 s false,N7 104 1099511627776 (nC s) (uJ s),N7 116 1099511627776 (mZ s) (uI s),Y2 (I7 114 32 (iF s) (lQ s))⟩:=rfl;have hEE:FI s=X6 (l9 114 32 (iF s) (lQ s)) (F8 114 32 (iF s) (lQ s)):=rfl;by_cases hx:(I7 114 32 (iF s) (lQ s)).length=32
 rotate_left
 ·have hk:oD s=false:=by
   unfold oD;rw[hX,dZ hx];rfl
  rw[bQ,uH,hk,if_neg hx];exact bH
 rw[if_pos hx];repeat' first|refine Yz ?_|intro
 by_cases hE:FI s=0
 rotate_left
 ·have hk:oD s=false:=by
   unfold oD;rw[dZ hE,Bool.false_and,Bool.and_false]
  rw[bQ,uH,hk];rw[hEE] at hE;exact bH
 have hk:oD s=bE (CS s):=by
  unfold oD;rw[hX,dT hx,dT hE,Bool.true_and,Bool.true_and]
 rw[bQ,uH,hk,hV];rw[hEE] at hE;repeat' first|refine Yz ?_|intro
 cases hc:bE ⟨I7 99 32 s false,N7 104 1099511627776 (nC s) (uJ s),N7 116 1099511627776 (mZ s) (uI s),Y2 (I7 114 32 (iF s) (lQ s))⟩
 ·exact bH
 exact bH⟩
end

instance c0i {s:Bs}:Ans prog GL 91 [str s] (s.length<=1000000000) (.tup [R4 (bQ s),int (uH s)]):=⟨λhl=>by
 obtain⟨l1,l2,l3⟩:=Km s;have e1:(nC s).length=(l9 99 32 s false).length:=rfl;have e2:(mZ s).length=(l9 104 8 (l9 99 32 s false) (F8 99 32 s false)).length:=rfl;have e3:(iF s).length=(l9 116 8 (l9 104 8 (l9 99 32 s false) (F8 99 32 s false)) (O1 104 1099511627776 (l9 99 32 s false) (F8 99 32 s false))).length:=rfl;refine zc func91 ntmps91 λ_ hs=>?_;repeat' first|refine Yz ?_|intro
 rw[Le,Ld,Lc,Kz,Ky,Kw];have hX:JG s=I7 114 32 (iF s) (lQ s):=rfl;have hV:CS s=⟨I7 99 32 s false,N7 104 1099511627776 (nC s) (uJ s),N7 116 1099511627776 (mZ s) (uI s),Y2 (I7 114 32 (iF s) (lQ s))⟩:=rfl;have hEE:FI s=X6 (l9 114 32 (iF s) (lQ s)) (F8 114 32 (iF s) (lQ s)):=rfl;by_cases hE:FI s=0
 rotate_left
 ·have hk:oD s=false:=by
   unfold oD;rw[dZ hE,Bool.false_and,Bool.and_false]
  rw[bQ,uH,hk];rw[hEE] at hE;exact bH
 by_cases hx:(I7 114 32 (iF s) (lQ s)).length=32
 rotate_left
 ·have hk:oD s=false:=by
   unfold oD;rw[hX,dZ hx];rfl
  rw[bQ,uH,hk];rw[hEE] at hE;exact bH
 have hk:oD s=bE (CS s):=by
  unfold oD;rw[hX,dT hx,dT hE,Bool.true_and,Bool.true_and]
 rw[bQ,uH,hk,hV];rw[hEE] at hE;repeat' first|refine Yz ?_|intro
 generalize I7 114 32 (iF s) (lQ s)=x at *;generalize I7 99 32 s false=C at *;generalize N7 104 1099511627776 (nC s) (uJ s)=H at *;generalize N7 116 1099511627776 (mZ s) (uI s)=T at *;rename_i g2 gr g5;refine H7 (α:=Nat) (λi=>[(2,ptr g2),(5,ptr g5),(6,str x),(7,int i)]) (λi=>[.var g5 93 (.agg 35 [str C,int H,int T,.agg 32 ((jA x i).map I5)]),.var g2 93 (R4 VS)]) (λi=>i<=32) (λi=>32-i) 0 za ?_ (Nat.zero_le _) ?_
 focus
  exact A8
 intro i hi;repeat' first|refine Yz ?_|intro
 refine G7 (λhlt=>?_) (λhlt=>?_)
 ·have hil:i<32:=om
  have hix:i<x.length:=om
  repeat' first|refine Yz ?_|intro
  refine EO i ?_ (List.getElem?_eq_getElem hix);repeat' first|refine Yz ?_|intro
  refine aX i ?_;have hst:=a4o (n:=35) (pre:=[str C,int H,int T]) (post:=[]) (l:=jA x i) (j:=i) (c:=x[i]) (TI hx hi) (by rw[TI hx hi];exact hil) (o:=0+3+i*1) (by simp[AV.size]);rw[Ac hx hil] at hst;refine gW (v':=.agg 35 [str C,int H,int T,.agg 32 ((jA x (i+1)).map I5)]) ?_ (hp:=hst);repeat' first|refine Yz ?_|intro
  exact y7 (i+1) za slr hil om
 obtain rfl:i=32:=by omega
 have hA1:AV.agg 32 ((jA x 32).map I5)=hA (Y2 x):=by rw[Ad hx,hA,TU hx]
 rw[hA1];repeat' first|refine Yz ?_|intro
 cases hc:bE ⟨C,H,T,Y2 x⟩
 ·exact bH
 exact bH⟩

structure CliW (x:Cli):Prop where
 n:x.l.length<=1000000
 p:x.p<=9223372036854775807
 s:∀ s∈x.l,s.h<=9223372036854775807/\s.t<=9223372036854775807
def Q8 (x:Cli):Bs:=r9 99 x.c++r9 107 x.k++y9 112 x.p++y9 102 (if x.f=true then 1 else 0)++U0 115 (x.l.map λs=>R3 (bT x.c s))
instance c3d {c k:Bs}{p:Int}{f:Bool}{l:List Sta}{xs:List AV}{id:Option Value}[hx:Stas xs l]:Ans prog GL 284 [.agg 5 [str c,str k,int p,d9 f,.sl 34 xs id]] (CliW ⟨c,k,p,f,l⟩) (str (Q8 ⟨c,k,p,f,l⟩)):=⟨λhp=>by
 obtain⟨hn,hp,hs4⟩:=hp;dsimp only at hn hp hs4;have h:=hx.out;subst h;have hm:(l.map O6).length=l.length:=llm _;refine zc func284 ntmps284 λ_ hs=>?_;repeat' first|refine Yz ?_|intro
 rename_i g1;generalize hF:(if f=true then 1 else 0:Int)=F at *;refine PS (α:=Unit) (λ_=>[(1,ptr g1),(3,int F)]) (λ_=>[.var g1 63 (.agg 5 [str c,str k,int p,d9 f,.sl 34 (l.map O6) id])]) ?_ (λ_=>?_)
 focus
  subst hF;cases f
  all_goals
   repeat' first|refine Yz ?_|intro
   exact P9 () za slr
 have hF0:F<=9223372036854775807:=by subst hF;split <;> decide
 repeat' first|refine Yz ?_|intro
 refine sP 4 (Imp.nil (k:=1)) ?_;refine eO (λok w h=>h.full 9 1 none 0) ?_;refine H7 (α:=Nat × Value) (λq=>[(1,ptr g1),(3,int F),(4,.sl 1 (((l.take q.1).map λs=>R3 (bT c s)).map str) (some q.2)),(10,.sl 34 (l.map O6) id),(11,int l.length),(12,int q.1)]) (λq=>[.tail 9 1 q.2,.var g1 63 (.agg 5 [str c,str k,int p,d9 f,.sl 34 (l.map O6) id])]) (λq=>q.1<=l.length) (λq=>l.length-q.1) (0,.slice none 0 0) ⟨rfl,rfl,rfl,rfl,by rw[<- hm];rfl,rfl,trivial⟩ slr (Nat.zero_le _) ?_;rintro⟨i,v⟩ hi;dsimp only at hi ⊢;repeat' first|refine Yz ?_|intro
 refine G7 (λhlt=>?_) (λhlt=>?_)
 ·have hil:i<l.length:=om
  have hst:=hs4 l[i] (List.getElem_mem hil);have hml:((l.take i).map λs=>R3 (bT c s)).length<=1000000:=by simp;omega
  repeat' first|refine Yz ?_|intro
  refine aP (λv'=>?_);repeat' first|refine Yz ?_|intro
  refine y7 (i+1,v') ⟨rfl,rfl,?_,rfl,rfl,rfl,trivial⟩ (List.Sublist.cons _ slr) hil (by dsimp only;omega);rw[List.take_succ_eq_append_getElem hil,List.map_append,List.map_append];rfl
 obtain rfl:i=l.length:=by omega
 rw[List.take_length];have hml:(l.map λs=>R3 (bT c s)).length<=8000000:=by simp;omega
 repeat' first|refine Yz ?_|intro
 refine x9 ?_;unfold Q8;dsimp only;rw[hF];rfl⟩

section
variable {s:Bs}
def NJ (s:Bs):Bs:=I7 99 32 s false
def oL (s:Bs):Bs:=l9 99 32 s false
def uO (s:Bs):Bool:=F8 99 32 s false
def XZ (s:Bs):Bs:=I7 107 64 (oL s) (uO s)
def oK (s:Bs):Bs:=l9 107 64 (oL s) (uO s)
def uN (s:Bs):Bool:=F8 107 64 (oL s) (uO s)
def XY (s:Bs):Int:=N7 112 1099511627776 (oK s) (uN s)
def oJ (s:Bs):Bs:=l9 112 8 (oK s) (uN s)
def uM (s:Bs):Bool:=O1 112 1099511627776 (oK s) (uN s)
def YA (s:Bs):Bool:=decide (N7 102 1 (oJ s) (uM s)=1)
def jQ (s:Bs):Bs:=l9 102 8 (oJ s) (uM s)
def nG (s:Bs):Bool:=O1 102 1 (oJ s) (uM s)
def rD (s:Bs):List Bs:=kM 115 32 200 (jQ s) (nG s)
def FO (s:Bs):Int:=X6 (l9 115 16777215 (jQ s) (nG s)) (eY 115 32 200 (jQ s) (nG s))
def nE (C t:Bs):Bool:=decide (uH t=0)&&decide ((bQ t).c=C)
def CX (s:Bs):Cli:=⟨NJ s,XZ s,XY s,YA s,(rD s).map λt=>X8 (bQ t)⟩
def FN (s:Bs):Bool:=(rD s).all (nE (NJ s))&&(decide (FO s=0)&&bM (CX s))
def rC (s:Bs):Cli:=if FN s=true then CX s else sS
def nD (s:Bs):Int:=if FN s=true then 0 else 10
theorem XR :l9 99 32 s false=oL s:=rfl
theorem Kv :F8 99 32 s false=uO s:=rfl
theorem XQ :l9 107 64 (oL s) (uO s)=oK s:=rfl
theorem Ku :F8 107 64 (oL s) (uO s)=uN s:=rfl
theorem XP :l9 112 8 (oK s) (uN s)=oJ s:=rfl
theorem Kt :O1 112 1099511627776 (oK s) (uN s)=uM s:=rfl
theorem XO :l9 102 8 (oJ s) (uM s)=jQ s:=rfl
theorem Kr :O1 102 1 (oJ s) (uM s)=nG s:=rfl
theorem RF :kM 115 32 200 (jQ s) (nG s)=rD s:=rfl
theorem Me (s:Bs):(oL s).length<=s.length/\(oK s).length<=s.length/\(oJ s).length<=s.length/\(jQ s).length<=s.length:=by
 have h1:=(aU 99 32 s false).1;have h2:=(aU 107 64 (oL s) (uO s)).1;have h3:=(aU 112 8 (oK s) (uN s)).1;have h4:=(aU 102 8 (oJ s) (uM s)).1;rw[XR] at h1;rw[XQ] at h2;rw[XP] at h3;rw[XO] at h4;exact⟨h1,om,om,om⟩
theorem a0j {α:Type}{l:List α}{p:α->Bool}{i:Nat}(hi:i<l.length)(h:(l.take i).all p=true)(h2:p l[i]=true):(l.take (i+1)).all p=true:=by
 rw[List.take_succ_eq_append_getElem hi,List.all_append,h];simp[h2]
theorem VD {α:Type}{l:List α}{p:α->Bool}{i:Nat}(hi:i<l.length)(h2:p l[i]=false):l.all p=false:=by
 rw[List.all_eq_false];exact⟨l[i],List.getElem_mem hi,by simp[h2]⟩
theorem Zf {c most:Int}(h:0<=most):∀ {f:Nat} {s:Bs} {b:Bool} {x:Bs},x∈(jW c most f s b).1->(x.length:Int)<=most
 | 0,_,_,_,hx=>by simp[jW] at hx
 | f+1,s,b,x,hx=>by
  rw[jW] at hx;split at hx
  ·simp at hx
  rcases List.mem_cons.1 hx with rfl|hx
  ·exact(CP c most s b).2 h
  exact Zf h hx
theorem Mg {c many most:Int}{b:Bool}{x:Bs}(h:0<=most)(hx:x∈kM c many most s b):(x.length:Int)<=most:=by
 unfold kM FQ at hx;split at hx
 ·simp at hx
 exact Zf h hx
theorem Mh {c many most:Int}{b:Bool}(h0:0<=many):((kM c many most s b).length:Int)<=many:=by
 unfold kM FQ;split
 ·simpa using h0
 rename_i h;unfold BR at h;by_cases hm:many<((IC c most (I7 c 16777215 s b)).1.length:Int)
 ·rw[dT hm] at h;simp at h
 omega
theorem ED:Imp (.tup [.agg 5 [.lit (.string ⟨#[]⟩),.lit (.string ⟨#[]⟩),.lit (.int .i64 0),.lit (.bool false),.lit (.slice none 0 0)],int 10]) (.tup [vG sS,int 10]):=(inferInstance:ImpR _ (.tup [.agg 5 [str [],str [],int 0,d9 false,.sl 34 [] none],int 10])).imp
theorem Rm {C K:Bs}{Pd:Int}{Fr:Bool}{xs:List AV}{v:Value}:Imp (.tup [.agg 5 [str C,str K,int Pd,d9 Fr,.sl 34 xs (some v)],int 0]) (.tup [.agg 5 [str C,str K,int Pd,d9 Fr,.sl 34 xs none],int 0]):=ImpR.imp
theorem Rj {C K:Bs}{Pd:Int}{Fr:Bool}:ImpC (.agg 5 [str C,str K,int Pd,d9 Fr,.lit (.slice none 0 0)]) (.agg 5 [str C,str K,int Pd,d9 Fr,.sl 34 [] (some (.slice none 0 0))]):=λok w cs h=>by
 rw[RC] at h ⊢;refine⟨h.1,?_⟩;have h:=h.2;rw[RCs] at h ⊢;obtain⟨a1,b1,e1,f1,h⟩:=h;refine⟨a1,b1,e1,f1,?_⟩;rw[RCs] at h ⊢;obtain⟨a1,b1,e1,f1,h⟩:=h;refine⟨a1,b1,e1,f1,?_⟩;rw[RCs] at h ⊢;obtain⟨a1,b1,e1,f1,h⟩:=h;refine⟨a1,b1,e1,f1,?_⟩;rw[RCs] at h ⊢;obtain⟨a1,b1,e1,f1,h⟩:=h;refine⟨a1,b1,e1,f1,?_⟩;rw[RCs] at h ⊢;obtain⟨a1,b1,e1,f1,h⟩:=h;exact⟨a1,b1,e1,ImpC.nilT _ _ _ f1,h⟩
instance c3a :Ans prog GL 212 [str s] (s.length<=1000000000) (.tup [vG (rC s),int (nD s)]):=⟨λhl=>by
 obtain⟨l1,l2,l3,l4⟩:=Me s;have e1:(oL s).length=(l9 99 32 s false).length:=rfl;have e2:(oK s).length=(l9 107 64 (l9 99 32 s false) (F8 99 32 s false)).length:=rfl;have e3:(oJ s).length=(l9 112 8 (l9 107 64 (l9 99 32 s false) (F8 99 32 s false)) (F8 107 64 (l9 99 32 s false) (F8 99 32 s false))).length:=rfl;have e4:(jQ s).length=(l9 102 8 (l9 112 8 (l9 107 64 (l9 99 32 s false) (F8 99 32 s false)) (F8 107 64 (l9 99 32 s false) (F8 99 32 s false))) (O1 112 1099511627776 (l9 107 64 (l9 99 32 s false) (F8 99 32 s false)) (F8 107 64 (l9 99 32 s false) (F8 99 32 s false)))).length:=rfl;refine zc func212 ntmps212 λ_ hs=>?_;repeat' first|refine Yz ?_|intro
 refine J6 (args:=[str s]) [] _ (by rw[hs];exact yM) (λu m1 hh=>?_) lpr;obtain⟨gr,rfl,rfl⟩:=hh;repeat' first|refine Yz ?_|intro
 rw[XR,Kv,XQ,Ku,XP,Kt,XO,Kr,RF];have hE:FO s=X6 (l9 115 16777215 (jQ s) (nG s)) (eY 115 32 200 (jQ s) (nG s)):=rfl;have hV:CX s=⟨I7 99 32 s false,I7 107 64 (oL s) (uO s),N7 112 1099511627776 (oK s) (uN s),decide (N7 102 1 (oJ s) (uM s)=1),(rD s).map λt=>X8 (bQ t)⟩:=rfl;have hK:FN s=((rD s).all (nE (I7 99 32 s false))&&(decide (FO s=0)&&bM (CX s))):=rfl;have hm:=λt (ht:t∈rD s)=>Mg (c:=115) (many:=32) (most:=200) dc ht;have hn:=Mh (c:=115) (many:=32) (most:=200) (s:=jQ s) (b:=nG s) dc;rw[RF] at hn;rw[rC,nD,hK,hV];rw[hE];generalize rD s=L at *;generalize l9 115 16777215 (jQ s) (nG s)=S5 at *;generalize eY 115 32 200 (jQ s) (nG s)=B5 at *;generalize I7 99 32 s false=C at *;generalize I7 107 64 (oL s) (uO s)=K at *;generalize N7 112 1099511627776 (oK s) (uN s)=Pd at *;generalize decide (N7 102 1 (oJ s) (uM s)=1)=Fr at *;have hml:(L.map str).length=L.length:=llm _;rename_i g2 g5;refine jK (g:=g5) (v':=.agg 5 [str C,str K,int Pd,d9 Fr,.sl 34 [] (some (.slice none 0 0))]) Rj ?_;refine eO (λok w h=>h.full 166 34 none 0) ?_;refine H7 (α:=Nat × Value) (λq=>[(2,ptr g2),(4,ptr gr),(5,ptr g5),(26,.sl 1 (L.map str) none),(27,int L.length),(28,int q.1)])
  (λq=>[.tail 166 34 q.2,.var g5 63 (.agg 5 [str C,str K,int Pd,d9 Fr,.sl 34 (((L.take q.1).map λt=>X8 (bQ t)).map O6) (some q.2)]),.var gr 267 (H5 S5 B5),.var g2 63 (.agg 5 [str [],str [],int 0,d9 false,K5])])
  (λq=>q.1<=L.length/\(L.take q.1).all (nE C)=true) (λq=>L.length-q.1) (0,.slice none 0 0) ⟨rfl,rfl,rfl,rfl,by rw[<- hml];rfl,rfl,trivial⟩ slr ⟨Nat.zero_le _,rfl⟩ ?_
 rintro⟨i,v⟩ ⟨h1,h2⟩;dsimp only at h1 h2 ⊢;repeat' first|refine Yz ?_|intro
 refine G7 (λhlt=>?_) (λhlt=>?_)
 ·have hil:i<L.length:=om
  have ht:=hm L[i] (List.getElem_mem hil);have hml2:((L.take i).map λt=>X8 (bQ t)).length<=32:=by simp;omega
  repeat' first|refine Yz ?_|intro
  by_cases he:uH L[i]=0
  rotate_left
  ·rw[VD hil (show nE C L[i]=false by unfold nE;rw[dZ he];rfl),Bool.false_and];repeat' first|refine Yz ?_|intro
   refine P8 ?_;exact ED
  by_cases hcc:(bQ L[i]).c=C
  rotate_left
  ·rw[VD hil (show nE C L[i]=false by unfold nE;rw[dZ hcc,Bool.and_false]),Bool.false_and];repeat' first|refine Yz ?_|intro
   rw[dT (show (bQ L[i]).c≠C from hcc)];repeat' first|refine Yz ?_|intro
   refine P8 ?_;exact ED
  repeat' first|refine Yz ?_|intro
  rw[dZ (show ¬ (bQ L[i]).c≠C from λh=>h hcc)];repeat' first|refine Yz ?_|intro
  apply aH [1];exact rfl;exact rfl;exact rfl;kernel_rfl;intro _ _;refine aP (λv'=>?_);refine j5 (W9 [.tail 166 34 v'] [] rfl rfl lpr rfl ?_);repeat' first|refine Yz ?_|intro
  refine y7 (i+1,v') za ?_ ⟨hil,a0j hil h2 (by unfold nE;rw[dT he,dT hcc];rfl)⟩ (by dsimp only;omega);dsimp only;rw[List.take_succ_eq_append_getElem hil,List.map_append,List.map_append];exact List.Sublist.cons _ slr
 obtain rfl:i=L.length:=by omega
 rw[List.take_length] at h2 ⊢;rw[h2,Bool.true_and];repeat' first|refine Yz ?_|intro
 by_cases hE0:X6 S5 B5=0
 rotate_left
 ·rw[dZ hE0,Bool.false_and];repeat' first|refine Yz ?_|intro
  refine P8 ?_;exact ED
 rw[dT hE0,Bool.true_and];repeat' first|refine Yz ?_|intro
 cases hmc:bM ⟨C,K,Pd,Fr,L.map λt=>X8 (bQ t)⟩
 ·repeat' first|refine Yz ?_|intro
  refine P8 ?_;exact ED
 repeat' first|refine Yz ?_|intro
 refine P8 ?_;exact Rm⟩
instance c0q :Ans prog GL 51 [str s] (s.length<=1000000000) (.tup [vG (rC s),int (nD s)]):=⟨λhl=>by
 obtain⟨l1,l2,l3,l4⟩:=Me s;have e1:(oL s).length=(l9 99 32 s false).length:=rfl;have e2:(oK s).length=(l9 107 64 (l9 99 32 s false) (F8 99 32 s false)).length:=rfl;have e3:(oJ s).length=(l9 112 8 (l9 107 64 (l9 99 32 s false) (F8 99 32 s false)) (F8 107 64 (l9 99 32 s false) (F8 99 32 s false))).length:=rfl;have e4:(jQ s).length=(l9 102 8 (l9 112 8 (l9 107 64 (l9 99 32 s false) (F8 99 32 s false)) (F8 107 64 (l9 99 32 s false) (F8 99 32 s false))) (O1 112 1099511627776 (l9 107 64 (l9 99 32 s false) (F8 99 32 s false)) (F8 107 64 (l9 99 32 s false) (F8 99 32 s false)))).length:=rfl;refine zc func51 ntmps51 λ_ hs=>?_;repeat' first|refine Yz ?_|intro
 rw[XR,Kv,XQ,Ku,XP,Kt,XO,Kr,RF];have hE:FO s=X6 (l9 115 16777215 (jQ s) (nG s)) (eY 115 32 200 (jQ s) (nG s)):=rfl;have hV:CX s=⟨I7 99 32 s false,I7 107 64 (oL s) (uO s),N7 112 1099511627776 (oK s) (uN s),decide (N7 102 1 (oJ s) (uM s)=1),(rD s).map λt=>X8 (bQ t)⟩:=rfl;have hK:FN s=((rD s).all (nE (I7 99 32 s false))&&(decide (FO s=0)&&bM (CX s))):=rfl;have hm:=λt (ht:t∈rD s)=>Mg (c:=115) (many:=32) (most:=200) dc ht;have hn:=Mh (c:=115) (many:=32) (most:=200) (s:=jQ s) (b:=nG s) dc;rw[RF] at hn;rw[rC,nD,hK,hV];rw[hE];generalize rD s=L at *;generalize l9 115 16777215 (jQ s) (nG s)=S5 at *;generalize eY 115 32 200 (jQ s) (nG s)=B5 at *;generalize I7 99 32 s false=C at *;generalize I7 107 64 (oL s) (uO s)=K at *;generalize N7 112 1099511627776 (oK s) (uN s)=Pd at *;generalize decide (N7 102 1 (oJ s) (uM s)=1)=Fr at *;have hml:(L.map str).length=L.length:=llm _;by_cases hE0:X6 S5 B5=0
 rotate_left
 ·rw[dZ hE0,Bool.false_and,Bool.and_false];repeat' first|refine Yz ?_|intro
  refine P8 ?_;exact ED
 rw[dT hE0,Bool.true_and];repeat' first|refine Yz ?_|intro
 rename_i g2 gr g5;refine jK (g:=g5) (v':=.agg 5 [str C,str K,int Pd,d9 Fr,.sl 34 [] (some (.slice none 0 0))]) Rj ?_;refine eO (λok w h=>h.full 166 34 none 0) ?_;refine H7 (α:=Nat × Value) (λq=>[(2,ptr g2),(4,ptr gr),(5,ptr g5),(6,.sl 1 (L.map str) none),(7,int q.1)])
  (λq=>[.tail 166 34 q.2,.var g5 63 (.agg 5 [str C,str K,int Pd,d9 Fr,.sl 34 (((L.take q.1).map λt=>X8 (bQ t)).map O6) (some q.2)]),.var gr 148 (H5 S5 B5),.var g2 63 (.agg 5 [str [],str [],int 0,d9 false,K5])])
  (λq=>q.1<=L.length/\(L.take q.1).all (nE C)=true) (λq=>L.length-q.1) (0,.slice none 0 0) za slr ⟨Nat.zero_le _,rfl⟩ ?_
 rintro⟨i,v⟩ ⟨h1,h2⟩;dsimp only at h1 h2 ⊢;repeat' first|refine Yz ?_|intro
 refine G7 (λhlt=>?_) (λhlt=>?_)
 ·have hil:i<L.length:=om
  have ht:=hm L[i] (List.getElem_mem hil);have hml2:((L.take i).map λt=>X8 (bQ t)).length<=32:=by simp;omega
  repeat' first|refine Yz ?_|intro
  by_cases he:uH L[i]=0
  rotate_left
  ·rw[VD hil (show nE C L[i]=false by unfold nE;rw[dZ he];rfl),Bool.false_and];repeat' first|refine Yz ?_|intro
   refine P8 ?_;exact ED
  by_cases hcc:(bQ L[i]).c=C
  rotate_left
  ·rw[VD hil (show nE C L[i]=false by unfold nE;rw[dZ hcc,Bool.and_false]),Bool.false_and];repeat' first|refine Yz ?_|intro
   rw[dT (show (bQ L[i]).c≠C from hcc)];repeat' first|refine Yz ?_|intro
   refine P8 ?_;exact ED
  repeat' first|refine Yz ?_|intro
  rw[dZ (show ¬ (bQ L[i]).c≠C from λh=>h hcc)];repeat' first|refine Yz ?_|intro
  refine aP (λv'=>?_);repeat' first|refine Yz ?_|intro
  refine y7 (i+1,v') za ?_ ⟨hil,a0j hil h2 (by unfold nE;rw[dT he,dT hcc];rfl)⟩ (by dsimp only;omega);dsimp only;rw[List.take_succ_eq_append_getElem hil,List.map_append,List.map_append];exact List.Sublist.cons _ slr
 obtain rfl:i=L.length:=by omega
 rw[List.take_length] at h2 ⊢;rw[h2,Bool.true_and];repeat' first|refine Yz ?_|intro
 cases hmc:bM ⟨C,K,Pd,Fr,L.map λt=>X8 (bQ t)⟩
 ·repeat' first|refine Yz ?_|intro
  refine P8 ?_;exact ED
 repeat' first|refine Yz ?_|intro
 refine P8 ?_;exact Rm⟩
end
end Go.Proofs.Z

namespace Go.Proofs.Z
open Go Go.RowKit Tw Av
section
variable {x:Cli}
theorem GZ {x:Hdr}:bE x=true↔(1<=x.c.length/\x.c.length<=32/\1<=x.h/\x.h<=1099511627776/\0<=x.t/\x.t<=1099511627776):=by
 unfold bE;exact decide_eq_true_iff
theorem Kl {x:Hdr}(h:bE x=true):bQ (R3 x)=x/\uH (R3 x)=0:=by
 obtain⟨c1,c2,c3,c4,c5,c6⟩:=GZ.1 h;have hB:R3 x=r9 99 x.c++(y9 104 x.h++(y9 116 x.t++(r9 114 x.r.l++[]))):=by
  unfold R3;simp
 obtain⟨a1,a2,a3⟩:=yV (c:=99) (most:=32) (s:=x.c) (r:=y9 104 x.h++(y9 116 x.t++(r9 114 x.r.l++[]))) dc dc om om;obtain⟨b1,b2,b3⟩:=oI (c:=104) (most:=1099511627776) (n:=x.h) (r:=y9 116 x.t++(r9 114 x.r.l++[])) dc dc om c4 dc;obtain⟨d1,d2,d3⟩:=oI (c:=116) (most:=1099511627776) (n:=x.t) (r:=r9 114 x.r.l++[]) dc dc c5 c6 dc;have hr:=x.r.len;obtain⟨f1,f2,f3⟩:=yV (c:=114) (most:=32) (s:=x.r.l) (r:=[]) dc dc om om;have s1:nC (R3 x)=y9 104 x.h++(y9 116 x.t++(r9 114 x.r.l++[])):=by unfold nC;rw[hB,a2]
 have t1:uJ (R3 x)=false:=by unfold uJ;rw[hB,a3]
 have s2:mZ (R3 x)=y9 116 x.t++(r9 114 x.r.l++[]):=by unfold mZ;rw[s1,t1,b2]
 have t2:uI (R3 x)=false:=by unfold uI;rw[s1,t1,b3]
 have s3:iF (R3 x)=r9 114 x.r.l++[]:=by unfold iF;rw[s2,t2,d2]
 have t3:lQ (R3 x)=false:=by unfold lQ;rw[s2,t2,d3]
 have hX:JG (R3 x)=x.r.l:=by unfold JG;rw[s3,t3,f1]
 have hE:FI (R3 x)=0:=by unfold FI;rw[s3,t3,f2,f3];rfl
 have hV:CS (R3 x)=x:=by
  unfold CS;rw[s1,t1,s2,t2,hX,b1,d1,hB,a1];have:Y2 x.r.l=x.r:=by
   unfold Y2;rw[dif_pos hr]
  rw[this]
 have hk:oD (R3 x)=true:=by
  unfold oD;rw[hX,hE,hV,h,dT hr];rfl
 unfold bQ uH;rw[if_pos hk,if_pos hk,hV];exact⟨rfl,rfl⟩
theorem a7y {x:Hdr}(h:bE x=true):(R3 x).length<=150:=by
 obtain⟨c1,c2,c3,c4,c5,c6⟩:=GZ.1 h;have hr:=x.r.len;have h1:(digits x.h.toNat).length<=8:=GU 8 _;have h2:(digits x.t.toNat).length<=8:=GU 8 _;unfold R3;rw[show y9 104 x.h=r9 104 (digits x.h.toNat) from rfl,show y9 116 x.t=r9 116 (digits x.t.toNat) from rfl,yL om,yL om,yL om,yL om];simp;omega
theorem LG :bM x=true↔((x.k.length<=64/\1<=x.p/\x.p<=1099511627776/\1<=x.l.length/\x.l.length<=32)/\∀ i,i<x.l.length->uU x.c x.l i=true):=by
 unfold bM;rw[bet,decide_eq_true_iff,List.all_eq_true];simp
theorem TB (h:bM x=true):∀ s∈x.l,bE (bT x.c s)=true:=by
 intro s hs;obtain⟨i,hi,rfl⟩:=List.getElem_of_mem hs;have:=(LG.1 h).2 i hi;unfold uU at this;rw[Bool.and_eq_true,show x.l.getD i Z4=x.l[i] by simp[List.getD,hi]] at this;exact this.1
theorem a6c (h:bM x=true):x.c.length<=32:=by
 have h0:=(LG.1 h).1;have hx:0<x.l.length:=by omega
 have:=TB h x.l[0] (List.getElem_mem hx);exact(GZ.1 this).2.1
theorem Md (h:bM x=true):rC (Q8 x)=x/\nD (Q8 x)=0:=by
 obtain⟨k1,k2,k3,k4,k5⟩:=(LG.1 h).1;have hc:=a6c h;have hch:=TB h;have hH:∀ t∈x.l.map (λs=>R3 (bT x.c s)),t.length<=150:=by
  intro t ht;obtain⟨s,hs,rfl⟩:=List.mem_map.1 ht;exact a7y (hch s hs)
 have hB:Q8 x=r9 99 x.c++(r9 107 x.k++(y9 112 x.p++(y9 102 (if x.f=true then 1 else 0)++(U0 115 (x.l.map λs=>R3 (bT x.c s))++[])))):=by
  unfold Q8;simp only[List.append_assoc,List.append_nil]
 obtain⟨a1,a2,a3⟩:=yV (c:=99) (most:=32) (s:=x.c) (r:=r9 107 x.k++(y9 112 x.p++(y9 102 (if x.f=true then 1 else 0)++(U0 115 (x.l.map λs=>R3 (bT x.c s))++[])))) dc dc om om;obtain⟨b1,b2,b3⟩:=yV (c:=107) (most:=64) (s:=x.k) (r:=y9 112 x.p++(y9 102 (if x.f=true then 1 else 0)++(U0 115 (x.l.map λs=>R3 (bT x.c s))++[]))) dc dc om om;obtain⟨d1,d2,d3⟩:=oI (c:=112) (most:=1099511627776) (n:=x.p) (r:=y9 102 (if x.f=true then 1 else 0)++(U0 115 (x.l.map λs=>R3 (bT x.c s))++[])) dc dc om k3 dc;obtain⟨f1,f2,f3⟩:=oI (c:=102) (most:=1) (n:=if x.f=true then 1 else 0) (r:=U0 115 (x.l.map λs=>R3 (bT x.c s))++[]) dc dc (by split <;> decide) (by split <;> decide) dc;obtain⟨g1,g2,g3⟩:=RN (c:=115) (many:=32) (most:=200) (l:=x.l.map λs=>R3 (bT x.c s)) (r:=[]) dc dc (by rw[llm];omega) (λt ht=>by have:=hH t ht;omega) (by
  have:=KO (c:=115) hH dc;rw[llm] at this;omega)
 have s1:oL (Q8 x)=r9 107 x.k++(y9 112 x.p++(y9 102 (if x.f=true then 1 else 0)++(U0 115 (x.l.map λs=>R3 (bT x.c s))++[]))):=by unfold oL;rw[hB,a2]
 have t1:uO (Q8 x)=false:=by unfold uO;rw[hB,a3]
 have s2:oK (Q8 x)=y9 112 x.p++(y9 102 (if x.f=true then 1 else 0)++(U0 115 (x.l.map λs=>R3 (bT x.c s))++[])):=by unfold oK;rw[s1,t1,b2]
 have t2:uN (Q8 x)=false:=by unfold uN;rw[s1,t1,b3]
 have s3:oJ (Q8 x)=y9 102 (if x.f=true then 1 else 0)++(U0 115 (x.l.map λs=>R3 (bT x.c s))++[]):=by unfold oJ;rw[s2,t2,d2]
 have t3:uM (Q8 x)=false:=by unfold uM;rw[s2,t2,d3]
 have s4:jQ (Q8 x)=U0 115 (x.l.map λs=>R3 (bT x.c s))++[]:=by unfold jQ;rw[s3,t3,f2]
 have t4:nG (Q8 x)=false:=by unfold nG;rw[s3,t3,f3]
 have hC:NJ (Q8 x)=x.c:=by unfold NJ;rw[hB,a1]
 have hK:XZ (Q8 x)=x.k:=by unfold XZ;rw[s1,t1,b1]
 have hP:XY (Q8 x)=x.p:=by unfold XY;rw[s2,t2,d1]
 have hF:YA (Q8 x)=x.f:=by
  unfold YA;rw[s3,t3,f1];cases x.f <;> rfl
 have hL:rD (Q8 x)=x.l.map λs=>R3 (bT x.c s):=by unfold rD;rw[s4,t4,g1]
 have hE:FO (Q8 x)=0:=by unfold FO;rw[s4,t4,g2,g3];rfl
 have hV:CX (Q8 x)=x:=by
  unfold CX;rw[hC,hK,hP,hF,hL,List.map_map];have:x.l.map ((λt=>X8 (bQ t)) ∘ λs=>R3 (bT x.c s))=x.l:=by
   conv=>rhs;rw[<- List.map_id x.l]
   refine List.map_congr_left λs hs=>?_;show X8 (bQ (R3 (bT x.c s)))=s;rw[(Kl (hch s hs)).1];rfl
  rw[this]
 have hA:(rD (Q8 x)).all (nE (NJ (Q8 x)))=true:=by
  rw[hC,hL,List.all_eq_true];intro t ht;obtain⟨s,hs,rfl⟩:=List.mem_map.1 ht;obtain⟨q1,q2⟩:=Kl (hch s hs);unfold nE;rw[q1,q2];simp[bT]
 have hk:FN (Q8 x)=true:=by
  unfold FN;rw[hA,hE,hV,h];rfl
 unfold rC nD;rw[if_pos hk,if_pos hk,hV];exact⟨rfl,rfl⟩
theorem a6b (h1:x.k.length<=64)(h2:1<=x.p/\x.p<=1099511627776)(h3:1<=x.l.length/\x.l.length<=32)(h4:Rise x.l)(h5:∀ s∈x.l,bE (bT x.c s)=true):bM x=true:=by
 rw[LG];refine⟨⟨h1,h2.1,h2.2,h3.1,h3.2⟩,λi hi=>?_⟩;unfold uU;have e:x.l.getD i Z4=x.l[i]:=by simp[List.getD,hi]
 rw[e,h5 _ (List.getElem_mem hi),Bool.true_and];rcases Nat.eq_zero_or_pos i with rfl|h0
 ·rfl
 have hi1:i-1<x.l.length:=om
 have e1:x.l.getD (i-1) Z4=x.l[i-1]:=by simp[List.getD,hi1]
 rw[e1,show gJ x.l[i-1] x.l[i]=true by
  have:=List.pairwise_iff_getElem.1 h4 (i-1) i hi1 hi om;unfold gJ;exact dT this]
 simp
end

structure TxX where
 k:Int
 i:Bs
 o:Bs
 p:Bs
 q:Bs
 y:Bs
 e:Int
 h:Hdr
 m:Hsh
 x:Pkt
 a:Bs
 t:Int
 f:Prf
 g:Gp
abbrev D8 (x:TxX):AV:=.agg 100 [int x.k,str x.i,str x.o,str x.p,str x.q,str x.y,int x.e,R4 x.h,hA x.m,eZ x.x,str x.a,int x.t,bK x.f,jS x.g]
structure Rep where
 e:Int
 q:Int
 a:Bs
deriving DecidableEq
abbrev K3 (r:Rep):AV:=.agg 3 [int r.e,int r.q,str r.a]
def oG:Rep:=⟨0,0,[]⟩
def yS (e:Int):Rep:=⟨e,0,[]⟩
def U2 (d:List Ent)(i:Bs):Cli:=rC (P7 d (E5 [67] i))
def U7 (d:List Ent)(i:Bs):Bool:=decide (nD (P7 d (E5 [67] i))=0)
def I1 (d:List Ent)(k i:Bs):EndX:=lS (P7 d (E5 k i))
def M5 (d:List Ent)(k i:Bs):Bool:=decide (oH (P7 d (E5 k i))=0)
def X7 (d:List Ent)(i:Bs):Int:=if xV (P7 d (E5 [78] i))=0 then FZ (P7 d (E5 [78] i)) else 1
def jO (d:List Ent)(i:Bs)(h t:Int):Int:=if U7 d i=false then 12 else if sM (U2 d i) t=false then 19 else if (BK (U2 d i).l h).isSome=false then 18 else 0
def nW (d:List Ent)(i:Bs)(h t:Int):Sta:=if jO d i h t=0 then (BK (U2 d i).l h).getD Z4 else Z4
def Q3 (d:List Ent)(i:Bs)(h t:Int)(k v:Bs)(p:Prf):Int:=if jO d i h t=0/\uW (nW d i h t).r ⟨k,v⟩ p=false then 18 else jO d i h t
def zJ (d:List Ent)(i:Bs)(h t:Int)(k:Bs)(g:Gp):Int:=if jO d i h t=0/\JY (nW d i h t).r k g=false then 18 else jO d i h t
def EG (d:List Ent)(i:Bs)(h t:Int)(k:Bs)(g:Gp):Sta:=if zJ d i h t k g=0 then nW d i h t else Z4
abbrev Out18:=List Ent × Rep
def K6 (d:List Ent)(e:Int):Out18:=(d,yS e)
def jN (d:List Ent)(r:List Ent × Int)(p:Rep):Out18:=if r.2=0 then (r.1,p) else K6 d r.2
def kQ (d:List Ent)(k v:Bs):Out18:=jN d (bJ d k v) oG
def rQ (d:List Ent)(x:Pkt):Out18:=if gL x.d=false\/0<BI x.d\/fT x.g=false then K6 d 1 else jN d (aL d x.g x.d x.a) oG
def wC (d:List Ent)(x:Pkt):Out18:=if gL x.d=false\/fT x.f=false\/fT x.g=false then K6 d 1 else jN d (aC d x.f x.g x.d x.a) oG
def rW (d:List Ent)(x:TxX):Out18:=if I4 x.i=false then K6 d 1 else if U7 d x.i=true then K6 d 13 else if BD x.y x.e x.h≠0 then K6 d (BD x.y x.e x.h) else kQ d (E5 [67] x.i) (Q8 (DN x.y x.e x.h))
def lL (d:List Ent)(x:TxX)(t:Int):Out18:=if U7 d x.i=false then K6 d 12 else if iU (U2 d x.i) x.h x.m t≠0 then K6 d (iU (U2 d x.i) x.h x.m t) else kQ d (E5 [67] x.i) (Q8 (pM (U2 d x.i) x.h x.m t))
def nS (d:List Ent)(x:TxX)(i k:Bs)(try':Bool)(t:Int):Out18:=
 if try'=false then (if (wG x.o x.q).2≠0 then K6 d (wG x.o x.q).2 else kQ d (E5 k x.i) (E9 (wG x.o x.q).1))
 else if Q3 d i x.t t (E5 k x.p) (E9 ⟨1,x.q,x.o,[]⟩) x.f≠0 then K6 d (Q3 d i x.t t (E5 k x.p) (E9 ⟨1,x.q,x.o,[]⟩) x.f)
 else if (pR x.o x.p ⟨1,x.q,x.o,[]⟩).2≠0 then K6 d (pR x.o x.p ⟨1,x.q,x.o,[]⟩).2
 else kQ d (E5 k x.i) (E9 (pR x.o x.p ⟨1,x.q,x.o,[]⟩).1)
def qK (d:List Ent)(x:TxX)(t:Int):Out18:=if I4 x.i=false then K6 d 1 else if M5 d [75] x.i=true then K6 d 13 else if U7 d x.o=false then K6 d 12 else nS d x x.o [75] (decide (x.k=6)) t
def qG (d:List Ent)(x:TxX)(t:Int):Out18:=if I4 x.i=false then K6 d 1 else if M5 d [72] x.i=true then K6 d 13 else if M5 d [75] x.o=false then K6 d 12 else if (I1 d [75] x.o).s≠3 then K6 d 13 else nS d x (I1 d [75] x.o).o [72] (decide (x.k=10)) t
def iC (own:EndX)(i:Bs)(ack:Bool):EndX:=⟨if ack=true then 2 else 3,own.q,own.o,i⟩
def rM (d:List Ent)(x:TxX)(own:EndX)(i k:Bs)(ack:Bool)(t:Int):Out18:=
 if Q3 d i x.t t (E5 k (if ack=true then x.p else own.p)) (E9 (iC own x.i ack)) x.f≠0 then K6 d (Q3 d i x.t t (E5 k (if ack=true then x.p else own.p)) (E9 (iC own x.i ack)) x.f)
 else if (if ack=true then sN own x.i x.p (iC own x.i ack) else wR own x.i (iC own x.i ack)).2≠0 then K6 d (if ack=true then sN own x.i x.p (iC own x.i ack) else wR own x.i (iC own x.i ack)).2
 else kQ d (E5 k x.i) (E9 (if ack=true then sN own x.i x.p (iC own x.i ack) else wR own x.i (iC own x.i ack)).1)
def rY (d:List Ent)(x:TxX)(t:Int):Out18:=if M5 d [75] x.i=false then K6 d 12 else rM d x (I1 d [75] x.i) (I1 d [75] x.i).o [75] (decide (x.k=7)) t
def rF (d:List Ent)(x:TxX)(t:Int):Out18:=if M5 d [72] x.i=false\/M5 d [75] (I1 d [72] x.i).o=false then K6 d 12 else rM d x (I1 d [72] x.i) (I1 d [75] (I1 d [72] x.i).o).o [72] (decide (x.k=11)) t
def nO (d:List Ent)(i:Bs)(asked:EndX->Bool):Int:=if M5 d [72] i=false then 12 else if (I1 d [72] i).s≠3\/asked (I1 d [72] i)=false then 13 else 0
def sG (d:List Ent)(i:Bs):Bool:=M5 d [75] (I1 d [72] i).o
def aO (d:List Ent)(i:Bs):Bs:=(I1 d [75] (I1 d [72] i).o).o
def goes (d:List Ent)(x:Pkt):Pkt:={ x with q:=X7 d x.s,k:=(I1 d [72] x.s).p }
def eX (d:List Ent)(x:Pkt):Out18:=
 if nO d x.s (λ_=>true)≠0 then K6 d (nO d x.s λ_=>true)
 else if aN (goes d x)=false then K6 d 1
 else if sG d x.s=false\/U7 d (aO d x.s)=false then K6 d 12
 else if aV (goes d x) (dW (U2 d (aO d x.s)).l).h (dW (U2 d (aO d x.s)).l).t=true then K6 d 21
 else jN d (aF (λd=>Z6 d (goes d x)) (aF (λy=>bJ y (G9 [80] x.s (goes d x).q) (M9 (goes d x))) (λy=>bJ y (E5 [78] x.s) (y9 110 ((goes d x).q+1)))) d) ⟨0,(goes d x).q,[]⟩
def zS (d:List Ent)(x:Pkt):Bs:=if (Y7 d x).2=0 then [43] else UE (Y7 d x).2
def rA (d:List Ent)(x:TxX)(h t:Int):Out18:=
 if aN x.x=false then K6 d 1
 else if nO d x.x.k (λc=>decide (c.p=x.x.s))≠0 then K6 d (nO d x.x.k λc=>decide (c.p=x.x.s))
 else if aV x.x h t=true then K6 d 21
 else if (gO d (G9 [71] x.x.k x.x.q)).isSome=true then K6 d 20
 else if sG d x.x.k=false then K6 d 12
 else if Q3 d (aO d x.x.k) x.t t (G9 [80] x.x.s x.x.q) (M9 x.x) x.f≠0 then K6 d (Q3 d (aO d x.x.k) x.t t (G9 [80] x.x.s x.x.q) (M9 x.x) x.f)
 else jN d (bJ (if (Y7 d x.x).2=0 then (Y7 d x.x).1 else d) (G9 [71] x.x.k x.x.q) (Z9 (zS d x.x))) ⟨0,0,zS d x.x⟩
def jU (d:List Ent)(x:Pkt)(b:Bool)(e:Int):Out18:=
 if nO d x.s (λc=>decide (c.p=x.k))≠0 then K6 d (nO d x.s λc=>decide (c.p=x.k))
 else if gO d (G9 [80] x.s x.q)≠some (M9 x)\/sG d x.s=false then K6 d 12
 else if e≠0 then K6 d e
 else if b=true/\(nT d x).2≠0 then K6 d (nT d x).2
 else (iM (if b=true then (nT d x).1 else d) (G9 [80] x.s x.q),oG)
def qR (d:List Ent)(x:TxX)(t:Int):Out18:=if aN x.x=false\/IM x.a=false then K6 d 1 else jU d x.x (decide (ET x.a≠0)) (Q3 d (aO d x.x.s) x.t t (G9 [71] x.x.k x.x.q) (Z9 x.a) x.f)
def QJ (d:List Ent)(x:TxX)(t:Int):Int:=if zJ d (aO d x.x.s) x.t t (G9 [71] x.x.k x.x.q) x.g=0/\aV x.x (EG d (aO d x.x.s) x.t t (G9 [71] x.x.k x.x.q) x.g).h (EG d (aO d x.x.s) x.t t (G9 [71] x.x.k x.x.q) x.g).t=false then 21 else zJ d (aO d x.x.s) x.t t (G9 [71] x.x.k x.x.q) x.g
def uA (d:List Ent)(x:TxX)(t:Int):Out18:=if aN x.x=false then K6 d 1 else jU d x.x true (QJ d x t)
def u7 (d:List Ent)(x:TxX)(h t:Int):Out18:=
 if x.k=1 then rQ d x.x else if x.k=2 then wC d x.x else if x.k=3 then rW d x else if x.k=4 then lL d x t
 else if x.k=5\/x.k=6 then qK d x t else if x.k=7\/x.k=8 then rY d x t else if x.k=9\/x.k=10 then qG d x t else if x.k=11\/x.k=12 then rF d x t
 else if x.k=13 then eX d x.x else if x.k=14 then rA d x h t else if x.k=15 then qR d x t else if x.k=16 then uA d x t else K6 d 1
end Go.Proofs.Z

namespace Go.Proofs.Z
open Go Go.RowKit Tw Av Go.Proofs.Tryz
section
variable {s:Bs}
theorem getD_in {l:Bs}{i:Nat}(h:i<l.length):l.getD i 0=l[i]:=by simp[List.getD,h]
theorem YZ :oP s=true↔∀ j,j<s.length->(s.getD j 0).toNat≠47:=by
 unfold oP;rw[List.all_eq_true]
 constructor
 ·intro h j hj;have:=of_decide_eq_true (h s[j] (List.getElem_mem hj));rw[getD_in hj];intro e;exact this (UInt8.toNat_inj.1 e)
 intro h c hc;obtain⟨j,hj,rfl⟩:=List.getElem_of_mem hc;have:=h j hj;rw[getD_in hj] at this;exact dT λe=>this (by rw[e];rfl)
theorem Ov {i:Nat}(hi:i<s.length)(h:(s.getD i 0).toNat=47):oP s=false:=by
 cases hn:oP s
 ·rfl
 exact absurd h (YZ.1 hn i hi)
theorem Nw (h:oP s=false):I4 s=false:=by unfold I4;rw[h];rfl
theorem Nv (h:oP s=true):I4 s=decide (1<=s.length/\s.length<=32):=by unfold I4;rw[h];rfl
instance b9u :Ans prog GL 281 [str s] True (d9 (I4 s)):=⟨λ_=>by
 refine zc func281 ntmps281 λ_ hs=>?_;repeat' first|refine Vz ?_|intro
 refine b2j (λg=>?_);repeat' first|refine Vz ?_|intro
 refine H7 (α:=Nat) (λi=>[(0,str s),(6,ptr g)]) (λi=>[.obj g (.stringIter ⟨s.toArray⟩ i)]) (λi=>i<=s.length/\∀ j,j<i->(s.getD j 0).toNat≠47) (λi=>s.length-i) 0 za slr ⟨Nat.zero_le _,λ_ h=>absurd h om⟩ ?_;rintro i ⟨hi,hall⟩;repeat' first|refine Vz ?_|intro
 by_cases hlt:i<s.length
 ·obtain⟨w1,w2,w3⟩:=Jd hlt;obtain⟨r1,r2⟩:=a3c hlt (show 47<128 by decide);refine b2u (pre:=[]) (post:=[]) hlt rfl ?_;repeat' first|refine Vz ?_|intro
  refine G7 (λh=>?_) (λh=>?_)
  ·repeat' first|refine Vz ?_|intro
   refine x9 ?_;rw[Nw (Ov hlt (r1.1 om))];rfl
  repeat' first|refine Vz ?_|intro
  refine y7 (i+(mV s i).2) za slr ⟨w2,λj hj=>?_⟩ om;by_cases hj2:j<i
  ·exact hall j hj2
  exact r2 om j om hj
 refine b2v (g:=g) om (List.mem_singleton.2 rfl) ?_;have hy:oP s=true:=YZ.2 λj hj=>hall j om;rw[Nv hy];rcases s with _|⟨c,s⟩
 ·exact o8
 repeat' first|refine O ?_|intro
 refine x9 ?_;rw[decide_eq_decide.2 (show (1<=(c::s).length/\(c::s).length<=32)↔(((c::s).length:Int)<=32) by rw[List.length_cons];omega)];rfl⟩
instance c0k :Ans prog GL 125 [str s] (s.length<=4611686018427387904) (d9 (I4 s)):=⟨λhl=>by
 refine zc func125 ntmps125 λ_ hs=>?_;repeat' first|refine Vz ?_|intro
 refine H7 (α:=Nat) (λi=>[(0,str s),(3,int i)]) (λi=>[]) (λi=>i<=s.length/\∀ j,j<i->(s.getD j 0).toNat≠47) (λi=>s.length-i) 0 za slr ⟨Nat.zero_le _,λ_ h=>absurd h om⟩ ?_;rintro i ⟨hi,hall⟩;repeat' first|refine Vz ?_|intro
 refine G7 (λhlt=>?_) (λhlt=>?_)
 ·have hil:i<s.length:=om
  repeat' first|refine Vz ?_|intro
  refine EO i ?_ (List.getElem?_eq_getElem hil);repeat' first|refine Vz ?_|intro
  refine G7 (λh=>?_) (λh=>?_)
  ·repeat' first|refine Vz ?_|intro
   refine x9 ?_;rw[Nw (Ov hil (by rw[getD_in hil];omega))];rfl
  repeat' first|refine Vz ?_|intro
  refine y7 (i+1) za slr ⟨hil,λj hj=>?_⟩ om;by_cases hj2:j<i
  ·exact hall j hj2
  obtain rfl:j=i:=by omega
  rw[getD_in hil];omega
 have hy:oP s=true:=YZ.2 λj hj=>hall j om;rw[Nv hy];repeat' first|refine Vz ?_|intro
 by_cases h1:1<=s.length
 ·repeat' first|refine O ?_|intro
  refine x9 ?_;rw[decide_eq_decide.2 (show (1<=s.length/\s.length<=32)↔((s.length:Int)<=32) by omega)];rfl
 repeat' first|refine O ?_|intro
 refine x9 ?_;have h0:¬ (1<=s.length/\s.length<=32):=λh=>h1 h.1;rw[dZ h0];rfl⟩
theorem a2t (s:Bs):Y5 s≠[]:=by
 cases s with
 | nil=>simp[Y5]
 | cons c s=>
  rw[Y5];split <;> simp
theorem a2s {x:Bs}(h:x∈Y5 s):x.length<=s.length:=by
 induction s generalizing x with
 | nil=>simp[Y5] at h;simp[h]
 | cons c s ih=>
  have hn:=a2t s;rw[Y5] at h;split at h
  ·rcases List.mem_cons.1 h with rfl|h
   ·simp
   have:=ih h;simp;omega
  cases h2:Y5 s with
  | nil=>exact absurd h2 hn
  | cons a l=>
   rw[h2] at h;simp at h;rcases h with rfl|h
   ·have:=ih (x:=a) (by rw[h2];simp);simp;omega
   have:=ih (x:=x) (by rw[h2];simp[h]);simp;omega
end
end Go.Proofs.Z
