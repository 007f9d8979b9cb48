/- . -/
import Derived.Test.YtgcmdlboancepaaGreatDoorQ27
set_option maxHeartbeats 64000000
namespace Go.Proofs.Z
open Go Go.RowKit Tw Av Go.Proofs.Tryz
structure CliW (x:Cli):Prop where
 n:x.l.length<=1000000
 p:x.p<=9223372036854775807
 s:∀ s∈x.l,s.h<=9223372036854775807/\s.t<=9223372036854775807
def Y1 (x:Cli):Bs:=r9 99 x.c++r9 107 x.k++D7 112 x.p++D7 102 (if x.f=true then 1 else 0)++O8 115 (x.l.map λs=>R3 (bN x.c s))
instance c1w {c k:Bs}{p:Int}{f:Bool}{l:List Sta}{xs:List AV}{id:Option Value}[hx:Stas xs l]:Ans prog GL 200 [.agg 5 [str c,str k,int p,d9 f,.sl 34 xs id]] (CliW ⟨c,k,p,f,l⟩) (str (Y1 ⟨c,k,p,f,l⟩)):=⟨λhp=>by
 obtain⟨hn,hp,hs4⟩:=hp;dsimp only at hn hp hs4;have h:=hx.out;subst h;have hm:(l.map G8).length=l.length:=llm _;refine ze func200 ntmps200 λ_ hs=>?_;repeat' first|refine Yz ?_|intro
 rename_i g1;generalize hF:(if f=true then 1 else 0:Int)=F at *;refine IJ (α:=Unit) (λ_=>[(1,ptr g1),(3,int F)]) (λ_=>[.var g1 99 (.agg 5 [str c,str k,int p,d9 f,.sl 34 (l.map G8) id])]) ?_ (λ_=>?_)
 focus
  subst hF;cases f
  all_goals
   repeat' first|refine Yz ?_|intro
   exact aZ () zc slr
 have hF0:F<=9223372036854775807:=by subst hF;split <;> decide
 repeat' first|refine Yz ?_|intro
 refine Y4 4 (Imp.nil (k:=1)) ?_;refine P6 (λok w h=>h.full 9 1 none 0) ?_;refine y9 (α:=Nat × Value) (λq=>[(1,ptr g1),(3,int F),(4,.sl 1 (((l.take q.1).map λs=>R3 (bN c s)).map str) (some q.2)),(10,.sl 34 (l.map G8) id),(11,int l.length),(12,int q.1)]) (λq=>[.tail 9 1 q.2,.var g1 99 (.agg 5 [str c,str k,int p,d9 f,.sl 34 (l.map G8) id])]) (λq=>q.1<=l.length) (λq=>l.length-q.1) (0,.slice none 0 0) ⟨rfl,rfl,rfl,rfl,by rw[<- hm];rfl,rfl,trivial⟩ slr (Nat.zero_le _) ?_;rintro⟨i,v⟩ hi;dsimp only at hi ⊢;repeat' first|refine Yz ?_|intro
 refine w9 (λhlt=>?_) (λhlt=>?_)
 ·have hil:i<l.length:=om
  have hst:=hs4 l[i] (List.getElem_mem hil);have hml:((l.take i).map λs=>R3 (bN c s)).length<=1000000:=by simp;omega
  repeat' first|refine Yz ?_|intro
  refine H7 (λv'=>?_);repeat' first|refine Yz ?_|intro
  refine o9 (i+1,v') ⟨rfl,rfl,?_,rfl,rfl,rfl,trivial⟩ (List.Sublist.cons _ slr) hil (by dsimp only;omega);rw[List.take_succ_eq_append_getElem hil,List.map_append,List.map_append];rfl
 obtain rfl:i=l.length:=by omega
 rw[List.take_length];have hml:(l.map λs=>R3 (bN c s)).length<=8000000:=by simp;omega
 repeat' first|refine Yz ?_|intro
 refine j6 ?_;unfold Y1;dsimp only;rw[hF];rfl⟩
instance b7S {c k:Bs}{p:Int}{f:Bool}{l:List Sta}{xs:List AV}{id:Option Value}[hx:Stas xs l]:Ans prog GL 428 [.agg 5 [str c,str k,int p,d9 f,.sl 34 xs id]] (CliW ⟨c,k,p,f,l⟩) (str (Y1 ⟨c,k,p,f,l⟩)):=⟨λhp=>by
 obtain⟨hn,hp,hs4⟩:=hp;dsimp only at hn hp hs4;have h:=hx.out;subst h;have hm:(l.map G8).length=l.length:=llm _;refine ze func428 ntmps428 λ_ hs=>?_;repeat' first|refine Yz ?_|intro
 rename_i g1;generalize hF:(if f=true then 1 else 0:Int)=F at *;refine IJ (α:=Unit) (λ_=>[(1,ptr g1),(3,int F)]) (λ_=>[.var g1 99 (.agg 5 [str c,str k,int p,d9 f,.sl 34 (l.map G8) id])]) ?_ (λ_=>?_)
 focus
  subst hF;cases f
  all_goals
   repeat' first|refine Yz ?_|intro
   exact aZ () zc slr
 have hF0:F<=9223372036854775807:=by subst hF;split <;> decide
 repeat' first|refine Yz ?_|intro
 refine Y4 4 (Imp.nil (k:=1)) ?_;refine P6 (λok w h=>h.full 9 1 none 0) ?_;refine y9 (α:=Nat × Value) (λq=>[(1,ptr g1),(3,int F),(4,.sl 1 (((l.take q.1).map λs=>R3 (bN c s)).map str) (some q.2)),(5,int q.1)]) (λq=>[.tail 9 1 q.2,.var g1 99 (.agg 5 [str c,str k,int p,d9 f,.sl 34 (l.map G8) id])]) (λq=>q.1<=l.length) (λq=>l.length-q.1) (0,.slice none 0 0) zc slr (Nat.zero_le _) ?_;rintro⟨i,v⟩ hi;dsimp only at hi ⊢;repeat' first|refine Yz ?_|intro
 refine w9 (λhlt=>?_) (λhlt=>?_)
 ·have hil:i<l.length:=om
  have hst:=hs4 l[i] (List.getElem_mem hil);have hml:((l.take i).map λs=>R3 (bN c s)).length<=1000000:=by simp;omega
  repeat' first|refine Yz ?_|intro
  apply U2 [0];exact rfl;exact rfl;exact rfl;kernel_rfl;intro _ _;refine H7 (λv'=>?_);refine j3 (N7 [.tail 9 1 v'] [] rfl rfl lpr rfl ?_);repeat' first|refine Yz ?_|intro
  refine o9 (i+1,v') ⟨rfl,rfl,?_,rfl,trivial⟩ slr hil (by dsimp only;omega);rw[List.take_succ_eq_append_getElem hil,List.map_append,List.map_append];rfl
 obtain rfl:i=l.length:=by omega
 rw[List.take_length];have hml:(l.map λs=>R3 (bN c s)).length<=8000000:=by simp;omega
 repeat' first|refine Yz ?_|intro
 refine j6 ?_;unfold Y1;dsimp only;rw[hF];rfl⟩

section
variable {s:Bs}
def JR (s:Bs):Bs:=G9 99 32 s false
def mJ (s:Bs):Bs:=o8 99 32 s false
def qZ (s:Bs):Bool:=F4 99 32 s false
def VK (s:Bs):Bs:=G9 107 64 (mJ s) (qZ s)
def mI (s:Bs):Bs:=o8 107 64 (mJ s) (qZ s)
def qY (s:Bs):Bool:=F4 107 64 (mJ s) (qZ s)
def VJ (s:Bs):Int:=L9 112 1099511627776 (mI s) (qY s)
def mH (s:Bs):Bs:=o8 112 8 (mI s) (qY s)
def qX (s:Bs):Bool:=N9 112 1099511627776 (mI s) (qY s)
def VL (s:Bs):Bool:=decide (L9 102 1 (mH s) (qX s)=1)
def iR (s:Bs):Bs:=o8 102 8 (mH s) (qX s)
def lD (s:Bs):Bool:=N9 102 1 (mH s) (qX s)
def oL (s:Bs):List Bs:=jJ 115 32 200 (iR s) (lD s)
def BX (s:Bs):Int:=U7 (o8 115 16777215 (iR s) (lD s)) (eF 115 32 200 (iR s) (lD s))
def lC (C t:Bs):Bool:=decide (qP t=0)&&decide ((bB t).c=C)
def zJ (s:Bs):Cli:=⟨JR s,VK s,VJ s,VL s,(oL s).map λt=>jE (bB t)⟩
def BV (s:Bs):Bool:=(oL s).all (lC (JR s))&&(decide (BX s=0)&&aK (zJ s))
def oK (s:Bs):Cli:=if BV s=true then zJ s else pY
def iQ (s:Bs):Int:=if BV s=true then 0 else 10
theorem VD :o8 99 32 s false=mJ s:=rfl
theorem Gx :F4 99 32 s false=qZ s:=rfl
theorem VC :o8 107 64 (mJ s) (qZ s)=mI s:=rfl
theorem Gw :F4 107 64 (mJ s) (qZ s)=qY s:=rfl
theorem VB :o8 112 8 (mI s) (qY s)=mH s:=rfl
theorem Gv :N9 112 1099511627776 (mI s) (qY s)=qX s:=rfl
theorem VA :o8 102 8 (mH s) (qX s)=iR s:=rfl
theorem Gu :N9 102 1 (mH s) (qX s)=lD s:=rfl
theorem OB :jJ 115 32 200 (iR s) (lD s)=oL s:=rfl
theorem Il (s:Bs):(mJ s).length<=s.length/\(mI s).length<=s.length/\(mH s).length<=s.length/\(iR s).length<=s.length:=by
 have h1:=(aH 99 32 s false).1;have h2:=(aH 107 64 (mJ s) (qZ s)).1;have h3:=(aH 112 8 (mI s) (qY s)).1;have h4:=(aH 102 8 (mH s) (qX s)).1;rw[VD] at h1;rw[VC] at h2;rw[VB] at h3;rw[VA] at h4;exact⟨h1,om,om,om⟩
theorem Vs {α:Type}{l:List α}{p:α->Bool}{i:Nat}(hi:i<l.length)(h:(l.take i).all p=true)(h2:p l[i]=true):(l.take (i+1)).all p=true:=by
 rw[List.take_succ_eq_append_getElem hi,List.all_append,h];simp[h2]
theorem RI {α:Type}{l:List α}{p:α->Bool}{i:Nat}(hi:i<l.length)(h2:p l[i]=false):l.all p=false:=by
 rw[List.all_eq_false];exact⟨l[i],List.getElem_mem hi,by simp[h2]⟩
theorem Uo {c most:Int}(h:0<=most):∀ {f:Nat} {s:Bs} {b:Bool} {x:Bs},x∈(jA c most f s b).1->(x.length:Int)<=most
 | 0,_,_,_,hx=>by simp[jA] at hx
 | f+1,s,b,x,hx=>by
  rw[jA] at hx;split at hx
  ·simp at hx
  rcases List.mem_cons.1 hx with rfl|hx
  ·exact(xJ c most s b).2 h
  exact Uo h hx
theorem Im {c many most:Int}{b:Bool}{x:Bs}(h:0<=most)(hx:x∈jJ c many most s b):(x.length:Int)<=most:=by
 unfold jJ BZ at hx;split at hx
 ·simp at hx
 exact Uo h hx
theorem Io {c many most:Int}{b:Bool}(h0:0<=many):((jJ c many most s b).length:Int)<=many:=by
 unfold jJ BZ;split
 ·simpa using h0
 rename_i h;unfold yL at h;by_cases hm:many<((DW c most (G9 c 16777215 s b)).1.length:Int)
 ·rw[dT hm] at h;simp at h
 omega
theorem zY:Imp (.tup [.agg 5 [.lit (.string ⟨#[]⟩),.lit (.string ⟨#[]⟩),.lit (.int .i64 0),.lit (.bool false),.lit (.slice none 0 0)],int 10]) (.tup [nT pY,int 10]):=(inferInstance:ImpR _ (.tup [.agg 5 [str [],str [],int 0,d9 false,.sl 34 [] none],int 10])).imp
theorem Nk {C K:Bs}{Pd:Int}{Fr:Bool}{xs:List AV}{v:Value}:Imp (.tup [.agg 5 [str C,str K,int Pd,d9 Fr,.sl 34 xs (some v)],int 0]) (.tup [.agg 5 [str C,str K,int Pd,d9 Fr,.sl 34 xs none],int 0]):=ImpR.imp
theorem Ni {C K:Bs}{Pd:Int}{Fr:Bool}:ImpC (.agg 5 [str C,str K,int Pd,d9 Fr,.lit (.slice none 0 0)]) (.agg 5 [str C,str K,int Pd,d9 Fr,.sl 34 [] (some (.slice none 0 0))]):=λok w cs h=>by
 rw[RC] at h ⊢;refine⟨h.1,?_⟩;have h:=h.2;rw[RCs] at h ⊢;obtain⟨a1,b1,e1,f1,h⟩:=h;refine⟨a1,b1,e1,f1,?_⟩;rw[RCs] at h ⊢;obtain⟨a1,b1,e1,f1,h⟩:=h;refine⟨a1,b1,e1,f1,?_⟩;rw[RCs] at h ⊢;obtain⟨a1,b1,e1,f1,h⟩:=h;refine⟨a1,b1,e1,f1,?_⟩;rw[RCs] at h ⊢;obtain⟨a1,b1,e1,f1,h⟩:=h;refine⟨a1,b1,e1,f1,?_⟩;rw[RCs] at h ⊢;obtain⟨a1,b1,e1,f1,h⟩:=h;exact⟨a1,b1,e1,ImpC.nilT _ _ _ f1,h⟩
instance c1t :Ans prog GL 93 [str s] (s.length<=1000000000) (.tup [nT (oK s),int (iQ s)]):=⟨λhl=>by
 obtain⟨l1,l2,l3,l4⟩:=Il s;have e1:(mJ s).length=(o8 99 32 s false).length:=rfl;have e2:(mI s).length=(o8 107 64 (o8 99 32 s false) (F4 99 32 s false)).length:=rfl;have e3:(mH s).length=(o8 112 8 (o8 107 64 (o8 99 32 s false) (F4 99 32 s false)) (F4 107 64 (o8 99 32 s false) (F4 99 32 s false))).length:=rfl;have e4:(iR s).length=(o8 102 8 (o8 112 8 (o8 107 64 (o8 99 32 s false) (F4 99 32 s false)) (F4 107 64 (o8 99 32 s false) (F4 99 32 s false))) (N9 112 1099511627776 (o8 107 64 (o8 99 32 s false) (F4 99 32 s false)) (F4 107 64 (o8 99 32 s false) (F4 99 32 s false)))).length:=rfl;refine ze func93 ntmps93 λ_ hs=>?_;repeat' first|refine Yz ?_|intro
 refine H6 (args:=[str s]) [] _ (by rw[hs];exact wH) (λu m1 hh=>?_) lpr;obtain⟨gr,rfl,rfl⟩:=hh;repeat' first|refine Yz ?_|intro
 rw[VD,Gx,VC,Gw,VB,Gv,VA,Gu,OB];have hE:BX s=U7 (o8 115 16777215 (iR s) (lD s)) (eF 115 32 200 (iR s) (lD s)):=rfl;have hV:zJ s=⟨G9 99 32 s false,G9 107 64 (mJ s) (qZ s),L9 112 1099511627776 (mI s) (qY s),decide (L9 102 1 (mH s) (qX s)=1),(oL s).map λt=>jE (bB t)⟩:=rfl;have hK:BV s=((oL s).all (lC (G9 99 32 s false))&&(decide (BX s=0)&&aK (zJ s))):=rfl;have hm:=λt (ht:t∈oL s)=>Im (c:=115) (many:=32) (most:=200) dc ht;have hn:=Io (c:=115) (many:=32) (most:=200) (s:=iR s) (b:=lD s) dc;rw[OB] at hn;rw[oK,iQ,hK,hV];rw[hE];generalize oL s=L at *;generalize o8 115 16777215 (iR s) (lD s)=S5 at *;generalize eF 115 32 200 (iR s) (lD s)=B5 at *;generalize G9 99 32 s false=C at *;generalize G9 107 64 (mJ s) (qZ s)=K at *;generalize L9 112 1099511627776 (mI s) (qY s)=Pd at *;generalize decide (L9 102 1 (mH s) (qX s)=1)=Fr at *;have hml:(L.map str).length=L.length:=llm _;rename_i g2 g5;refine dY (g:=g5) (v':=.agg 5 [str C,str K,int Pd,d9 Fr,.sl 34 [] (some (.slice none 0 0))]) Ni ?_;refine P6 (λok w h=>h.full 103 34 none 0) ?_;refine y9 (α:=Nat × Value) (λq=>[(2,ptr g2),(4,ptr gr),(5,ptr g5),(26,.sl 1 (L.map str) none),(27,int L.length),(28,int q.1)])
  (λq=>[.tail 103 34 q.2,.var g5 99 (.agg 5 [str C,str K,int Pd,d9 Fr,.sl 34 (((L.take q.1).map λt=>jE (bB t)).map G8) (some q.2)]),.var gr 311 (F7 S5 B5),.var g2 99 (.agg 5 [str [],str [],int 0,d9 false,J2])])
  (λq=>q.1<=L.length/\(L.take q.1).all (lC C)=true) (λq=>L.length-q.1) (0,.slice none 0 0) ⟨rfl,rfl,rfl,rfl,by rw[<- hml];rfl,rfl,trivial⟩ slr ⟨Nat.zero_le _,rfl⟩ ?_
 rintro⟨i,v⟩ ⟨h1,h2⟩;dsimp only at h1 h2 ⊢;repeat' first|refine Yz ?_|intro
 refine w9 (λhlt=>?_) (λhlt=>?_)
 ·have hil:i<L.length:=om
  have ht:=hm L[i] (List.getElem_mem hil);have hml2:((L.take i).map λt=>jE (bB t)).length<=32:=by simp;omega
  repeat' first|refine Yz ?_|intro
  by_cases he:qP L[i]=0
  rotate_left
  ·rw[RI hil (show lC C L[i]=false by unfold lC;rw[dZ he];rfl),Bool.false_and];repeat' first|refine Yz ?_|intro
   refine F9 ?_;exact zY
  by_cases hcc:(bB L[i]).c=C
  rotate_left
  ·rw[RI hil (show lC C L[i]=false by unfold lC;rw[dZ hcc,Bool.and_false]),Bool.false_and];repeat' first|refine Yz ?_|intro
   rw[dT (show (bB L[i]).c≠C from hcc)];repeat' first|refine Yz ?_|intro
   refine F9 ?_;exact zY
  repeat' first|refine Yz ?_|intro
  rw[dZ (show ¬ (bB L[i]).c≠C from λh=>h hcc)];repeat' first|refine Yz ?_|intro
  apply U2 [1];exact rfl;exact rfl;exact rfl;kernel_rfl;intro _ _;refine H7 (λv'=>?_);refine j3 (N7 [.tail 103 34 v'] [] rfl rfl lpr rfl ?_);repeat' first|refine Yz ?_|intro
  refine o9 (i+1,v') zc ?_ ⟨hil,Vs hil h2 (by unfold lC;rw[dT he,dT hcc];rfl)⟩ (by dsimp only;omega);dsimp only;rw[List.take_succ_eq_append_getElem hil,List.map_append,List.map_append];exact List.Sublist.cons _ slr
 obtain rfl:i=L.length:=by omega
 rw[List.take_length] at h2 ⊢;rw[h2,Bool.true_and];repeat' first|refine Yz ?_|intro
 by_cases hE0:U7 S5 B5=0
 rotate_left
 ·rw[dZ hE0,Bool.false_and];repeat' first|refine Yz ?_|intro
  refine F9 ?_;exact zY
 rw[dT hE0,Bool.true_and];repeat' first|refine Yz ?_|intro
 cases hmc:aK ⟨C,K,Pd,Fr,L.map λt=>jE (bB t)⟩
 ·repeat' first|refine Yz ?_|intro
  refine F9 ?_;exact zY
 repeat' first|refine Yz ?_|intro
 refine F9 ?_;exact Nk⟩
instance b7R :Ans prog GL 170 [str s] (s.length<=1000000000) (.tup [nT (oK s),int (iQ s)]):=⟨λhl=>by
 obtain⟨l1,l2,l3,l4⟩:=Il s;have e1:(mJ s).length=(o8 99 32 s false).length:=rfl;have e2:(mI s).length=(o8 107 64 (o8 99 32 s false) (F4 99 32 s false)).length:=rfl;have e3:(mH s).length=(o8 112 8 (o8 107 64 (o8 99 32 s false) (F4 99 32 s false)) (F4 107 64 (o8 99 32 s false) (F4 99 32 s false))).length:=rfl;have e4:(iR s).length=(o8 102 8 (o8 112 8 (o8 107 64 (o8 99 32 s false) (F4 99 32 s false)) (F4 107 64 (o8 99 32 s false) (F4 99 32 s false))) (N9 112 1099511627776 (o8 107 64 (o8 99 32 s false) (F4 99 32 s false)) (F4 107 64 (o8 99 32 s false) (F4 99 32 s false)))).length:=rfl;refine ze func170 ntmps170 λ_ hs=>?_;repeat' first|refine Yz ?_|intro
 rw[VD,Gx,VC,Gw,VB,Gv,VA,Gu,OB];have hE:BX s=U7 (o8 115 16777215 (iR s) (lD s)) (eF 115 32 200 (iR s) (lD s)):=rfl;have hV:zJ s=⟨G9 99 32 s false,G9 107 64 (mJ s) (qZ s),L9 112 1099511627776 (mI s) (qY s),decide (L9 102 1 (mH s) (qX s)=1),(oL s).map λt=>jE (bB t)⟩:=rfl;have hK:BV s=((oL s).all (lC (G9 99 32 s false))&&(decide (BX s=0)&&aK (zJ s))):=rfl;have hm:=λt (ht:t∈oL s)=>Im (c:=115) (many:=32) (most:=200) dc ht;have hn:=Io (c:=115) (many:=32) (most:=200) (s:=iR s) (b:=lD s) dc;rw[OB] at hn;rw[oK,iQ,hK,hV];rw[hE];generalize oL s=L at *;generalize o8 115 16777215 (iR s) (lD s)=S5 at *;generalize eF 115 32 200 (iR s) (lD s)=B5 at *;generalize G9 99 32 s false=C at *;generalize G9 107 64 (mJ s) (qZ s)=K at *;generalize L9 112 1099511627776 (mI s) (qY s)=Pd at *;generalize decide (L9 102 1 (mH s) (qX s)=1)=Fr at *;have hml:(L.map str).length=L.length:=llm _;by_cases hE0:U7 S5 B5=0
 rotate_left
 ·rw[dZ hE0,Bool.false_and,Bool.and_false];repeat' first|refine Yz ?_|intro
  refine F9 ?_;exact zY
 rw[dT hE0,Bool.true_and];repeat' first|refine Yz ?_|intro
 rename_i g2 gr g5;refine dY (g:=g5) (v':=.agg 5 [str C,str K,int Pd,d9 Fr,.sl 34 [] (some (.slice none 0 0))]) Ni ?_;refine P6 (λok w h=>h.full 103 34 none 0) ?_;refine y9 (α:=Nat × Value) (λq=>[(2,ptr g2),(4,ptr gr),(5,ptr g5),(6,.sl 1 (L.map str) none),(7,int q.1)])
  (λq=>[.tail 103 34 q.2,.var g5 99 (.agg 5 [str C,str K,int Pd,d9 Fr,.sl 34 (((L.take q.1).map λt=>jE (bB t)).map G8) (some q.2)]),.var gr 238 (F7 S5 B5),.var g2 99 (.agg 5 [str [],str [],int 0,d9 false,J2])])
  (λq=>q.1<=L.length/\(L.take q.1).all (lC C)=true) (λq=>L.length-q.1) (0,.slice none 0 0) zc slr ⟨Nat.zero_le _,rfl⟩ ?_
 rintro⟨i,v⟩ ⟨h1,h2⟩;dsimp only at h1 h2 ⊢;repeat' first|refine Yz ?_|intro
 refine w9 (λhlt=>?_) (λhlt=>?_)
 ·have hil:i<L.length:=om
  have ht:=hm L[i] (List.getElem_mem hil);have hml2:((L.take i).map λt=>jE (bB t)).length<=32:=by simp;omega
  repeat' first|refine Yz ?_|intro
  by_cases he:qP L[i]=0
  rotate_left
  ·rw[RI hil (show lC C L[i]=false by unfold lC;rw[dZ he];rfl),Bool.false_and];repeat' first|refine Yz ?_|intro
   refine F9 ?_;exact zY
  by_cases hcc:(bB L[i]).c=C
  rotate_left
  ·rw[RI hil (show lC C L[i]=false by unfold lC;rw[dZ hcc,Bool.and_false]),Bool.false_and];repeat' first|refine Yz ?_|intro
   rw[dT (show (bB L[i]).c≠C from hcc)];repeat' first|refine Yz ?_|intro
   refine F9 ?_;exact zY
  repeat' first|refine Yz ?_|intro
  rw[dZ (show ¬ (bB L[i]).c≠C from λh=>h hcc)];repeat' first|refine Yz ?_|intro
  refine H7 (λv'=>?_);repeat' first|refine Yz ?_|intro
  refine o9 (i+1,v') zc ?_ ⟨hil,Vs hil h2 (by unfold lC;rw[dT he,dT hcc];rfl)⟩ (by dsimp only;omega);dsimp only;rw[List.take_succ_eq_append_getElem hil,List.map_append,List.map_append];exact List.Sublist.cons _ slr
 obtain rfl:i=L.length:=by omega
 rw[List.take_length] at h2 ⊢;rw[h2,Bool.true_and];repeat' first|refine Yz ?_|intro
 cases hmc:aK ⟨C,K,Pd,Fr,L.map λt=>jE (bB t)⟩
 ·repeat' first|refine Yz ?_|intro
  refine F9 ?_;exact zY
 repeat' first|refine Yz ?_|intro
 refine F9 ?_;exact Nk⟩
end
end Go.Proofs.Z

namespace Go.Proofs.Z
open Go Go.RowKit Tw Av
theorem LH {x:Hdr}:aO x=true↔(1<=x.c.length/\x.c.length<=32/\1<=x.h/\x.h<=1099511627776/\0<=x.t/\x.t<=1099511627776):=by
 unfold aO;exact decide_eq_true_iff
theorem Gn {x:Hdr}(h:aO x=true):bB (R3 x)=x/\qP (R3 x)=0:=by
 obtain⟨c1,c2,c3,c4,c5,c6⟩:=LH.1 h;have hB:R3 x=r9 99 x.c++(D7 104 x.h++(D7 116 x.t++(r9 114 x.r.l++[]))):=by
  unfold R3;simp
 obtain⟨a1,a2,a3⟩:=vF (c:=99) (most:=32) (s:=x.c) (r:=D7 104 x.h++(D7 116 x.t++(r9 114 x.r.l++[]))) dc dc om om;obtain⟨b1,b2,b3⟩:=tX (c:=104) (most:=1099511627776) (n:=x.h) (r:=D7 116 x.t++(r9 114 x.r.l++[])) dc dc om c4 dc;obtain⟨d1,d2,d3⟩:=tX (c:=116) (most:=1099511627776) (n:=x.t) (r:=r9 114 x.r.l++[]) dc dc c5 c6 dc;have hr:=x.r.len;obtain⟨f1,f2,f3⟩:=vF (c:=114) (most:=32) (s:=x.r.l) (r:=[]) dc dc om om;have s1:kZ (R3 x)=D7 104 x.h++(D7 116 x.t++(r9 114 x.r.l++[])):=by unfold kZ;rw[hB,a2]
 have t1:qR (R3 x)=false:=by unfold qR;rw[hB,a3]
 have s2:kY (R3 x)=D7 116 x.t++(r9 114 x.r.l++[]):=by unfold kY;rw[s1,t1,b2]
 have t2:qQ (R3 x)=false:=by unfold qQ;rw[s1,t1,b3]
 have s3:fI (R3 x)=r9 114 x.r.l++[]:=by unfold fI;rw[s2,t2,d2]
 have t3:jR (R3 x)=false:=by unfold jR;rw[s2,t2,d3]
 have hX:EU (R3 x)=x.r.l:=by unfold EU;rw[s3,t3,f1]
 have hE:BR (R3 x)=0:=by unfold BR;rw[s3,t3,f2,f3];rfl
 have hV:zG (R3 x)=x:=by
  unfold zG;rw[s1,t1,s2,t2,hX,b1,d1,hB,a1];have:W9 x.r.l=x.r:=by
   unfold W9;rw[dif_pos hr]
  rw[this]
 have hk:mF (R3 x)=true:=by
  unfold mF;rw[hX,hE,hV,h,dT hr];rfl
 unfold bB qP;rw[if_pos hk,if_pos hk,hV];exact⟨rfl,rfl⟩
theorem a4X {x:Hdr}(h:aO x=true):(R3 x).length<=150:=by
 obtain⟨c1,c2,c3,c4,c5,c6⟩:=LH.1 h;have hr:=x.r.len;have h1:(digits x.h.toNat).length<=8:=CY 8 _;have h2:(digits x.t.toNat).length<=8:=CY 8 _;unfold R3;rw[show D7 104 x.h=r9 104 (digits x.h.toNat) from rfl,show D7 116 x.t=r9 116 (digits x.t.toNat) from rfl,uT om,uT om,uT om,uT om];simp;omega
theorem LZ {x:Cli}:aK x=true↔((x.k.length<=64/\1<=x.p/\x.p<=1099511627776/\1<=x.l.length/\x.l.length<=32)/\∀ i,i<x.l.length->rJ x.c x.l i=true):=by
 unfold aK;rw[bet,decide_eq_true_iff,List.all_eq_true];simp
theorem PO {x:Cli}(h:aK x=true):∀ s∈x.l,aO (bN x.c s)=true:=by
 intro s hs;obtain⟨i,hi,rfl⟩:=List.getElem_of_mem hs;have:=(LZ.1 h).2 i hi;unfold rJ at this;rw[Bool.and_eq_true,show x.l.getD i R8=x.l[i] by simp[List.getD,hi]] at this;exact this.1
theorem a3C {x:Cli}(h:aK x=true):x.c.length<=32:=by
 have h0:=(LZ.1 h).1;have hx:0<x.l.length:=by omega
 have:=PO h x.l[0] (List.getElem_mem hx);exact(LH.1 this).2.1
theorem a1R {x:Cli}(h:aK x=true):oK (Y1 x)=x/\iQ (Y1 x)=0:=by
 obtain⟨k1,k2,k3,k4,k5⟩:=(LZ.1 h).1;have hc:=a3C h;have hch:=PO h;have hH:∀ t∈x.l.map (λs=>R3 (bN x.c s)),t.length<=150:=by
  intro t ht;obtain⟨s,hs,rfl⟩:=List.mem_map.1 ht;exact a4X (hch s hs)
 have hB:Y1 x=r9 99 x.c++(r9 107 x.k++(D7 112 x.p++(D7 102 (if x.f=true then 1 else 0)++(O8 115 (x.l.map λs=>R3 (bN x.c s))++[])))):=by
  unfold Y1;simp only[List.append_assoc,List.append_nil]
 obtain⟨a1,a2,a3⟩:=vF (c:=99) (most:=32) (s:=x.c) (r:=r9 107 x.k++(D7 112 x.p++(D7 102 (if x.f=true then 1 else 0)++(O8 115 (x.l.map λs=>R3 (bN x.c s))++[])))) dc dc om om;obtain⟨b1,b2,b3⟩:=vF (c:=107) (most:=64) (s:=x.k) (r:=D7 112 x.p++(D7 102 (if x.f=true then 1 else 0)++(O8 115 (x.l.map λs=>R3 (bN x.c s))++[]))) dc dc om om;obtain⟨d1,d2,d3⟩:=tX (c:=112) (most:=1099511627776) (n:=x.p) (r:=D7 102 (if x.f=true then 1 else 0)++(O8 115 (x.l.map λs=>R3 (bN x.c s))++[])) dc dc om k3 dc;obtain⟨f1,f2,f3⟩:=tX (c:=102) (most:=1) (n:=if x.f=true then 1 else 0) (r:=O8 115 (x.l.map λs=>R3 (bN x.c s))++[]) dc dc (by split <;> decide) (by split <;> decide) dc;obtain⟨g1,g2,g3⟩:=OH (c:=115) (many:=32) (most:=200) (l:=x.l.map λs=>R3 (bN x.c s)) (r:=[]) dc dc (by rw[llm];omega) (λt ht=>by have:=hH t ht;omega) (by
  have:=GH (c:=115) hH dc;rw[llm] at this;omega)
 have s1:mJ (Y1 x)=r9 107 x.k++(D7 112 x.p++(D7 102 (if x.f=true then 1 else 0)++(O8 115 (x.l.map λs=>R3 (bN x.c s))++[]))):=by unfold mJ;rw[hB,a2]
 have t1:qZ (Y1 x)=false:=by unfold qZ;rw[hB,a3]
 have s2:mI (Y1 x)=D7 112 x.p++(D7 102 (if x.f=true then 1 else 0)++(O8 115 (x.l.map λs=>R3 (bN x.c s))++[])):=by unfold mI;rw[s1,t1,b2]
 have t2:qY (Y1 x)=false:=by unfold qY;rw[s1,t1,b3]
 have s3:mH (Y1 x)=D7 102 (if x.f=true then 1 else 0)++(O8 115 (x.l.map λs=>R3 (bN x.c s))++[]):=by unfold mH;rw[s2,t2,d2]
 have t3:qX (Y1 x)=false:=by unfold qX;rw[s2,t2,d3]
 have s4:iR (Y1 x)=O8 115 (x.l.map λs=>R3 (bN x.c s))++[]:=by unfold iR;rw[s3,t3,f2]
 have t4:lD (Y1 x)=false:=by unfold lD;rw[s3,t3,f3]
 have hC:JR (Y1 x)=x.c:=by unfold JR;rw[hB,a1]
 have hK:VK (Y1 x)=x.k:=by unfold VK;rw[s1,t1,b1]
 have hP:VJ (Y1 x)=x.p:=by unfold VJ;rw[s2,t2,d1]
 have hF:VL (Y1 x)=x.f:=by
  unfold VL;rw[s3,t3,f1];cases x.f <;> rfl
 have hL:oL (Y1 x)=x.l.map λs=>R3 (bN x.c s):=by unfold oL;rw[s4,t4,g1]
 have hE:BX (Y1 x)=0:=by unfold BX;rw[s4,t4,g2,g3];rfl
 have hV:zJ (Y1 x)=x:=by
  unfold zJ;rw[hC,hK,hP,hF,hL,List.map_map];have:x.l.map ((λt=>jE (bB t)) ∘ λs=>R3 (bN x.c s))=x.l:=by
   conv=>rhs;rw[<- List.map_id x.l]
   refine List.map_congr_left λs hs=>?_;show jE (bB (R3 (bN x.c s)))=s;rw[(Gn (hch s hs)).1];rfl
  rw[this]
 have hA:(oL (Y1 x)).all (lC (JR (Y1 x)))=true:=by
  rw[hC,hL,List.all_eq_true];intro t ht;obtain⟨s,hs,rfl⟩:=List.mem_map.1 ht;obtain⟨q1,q2⟩:=Gn (hch s hs);unfold lC;rw[q1,q2];simp[bN]
 have hk:BV (Y1 x)=true:=by
  unfold BV;rw[hA,hE,hV,h];rfl
 unfold oK iQ;rw[if_pos hk,if_pos hk,hV];exact⟨rfl,rfl⟩

structure TxX where
 k:Int
 i:Bs
 o:Bs
 p:Bs
 q:Bs
 y:Bs
 e:Int
 h:Hdr
 m:Hsh
 x:Pkt
 a:Bs
 t:Int
 f:Prf
 g:Gp
abbrev x9 (x:TxX):AV:=.agg 100 [int x.k,str x.i,str x.o,str x.p,str x.q,str x.y,int x.e,Q7 x.h,hA x.m,aT x.x,str x.a,int x.t,Z9 x.f,eZ x.g]
structure Rep where
 e:Int
 q:Int
 a:Bs
deriving DecidableEq
abbrev P5 (r:Rep):AV:=.agg 3 [int r.e,int r.q,str r.a]
def oJ:Rep:=⟨0,0,[]⟩
def xK (e:Int):Rep:=⟨e,0,[]⟩
def U9 (d:List Ent)(i:Bs):Cli:=oK (N8 d (I9 [67] i))
def Q4 (d:List Ent)(i:Bs):Bool:=decide (iQ (N8 d (I9 [67] i))=0)
def C9 (d:List Ent)(k i:Bs):EndX:=nJ (N8 d (I9 k i))
def M0 (d:List Ent)(k i:Bs):Bool:=decide (tV (N8 d (I9 k i))=0)
def V8 (d:List Ent)(i:Bs):Int:=if vM (N8 d (I9 [78] i))=0 then zW (N8 d (I9 [78] i)) else 1
def gY (d:List Ent)(i:Bs)(h t:Int):Int:=if Q4 d i=false then 12 else if nZ (U9 d i) t=false then 19 else if (vQ (U9 d i).l h).isSome=false then 18 else 0
def kQ (d:List Ent)(i:Bs)(h t:Int):Sta:=if gY d i h t=0 then (vQ (U9 d i).l h).getD R8 else R8
def bK (d:List Ent)(i:Bs)(h t:Int)(k v:Bs)(p:Prf):Int:=if gY d i h t=0/\mU (kQ d i h t).r ⟨k,v⟩ p=false then 18 else gY d i h t
def lL (d:List Ent)(i:Bs)(h t:Int)(k:Bs)(g:Gp):Int:=if gY d i h t=0/\xV (kQ d i h t).r k g=false then 18 else gY d i h t
def mV (d:List Ent)(i:Bs)(h t:Int)(k:Bs)(g:Gp):Sta:=if lL d i h t k g=0 then kQ d i h t else R8
abbrev Out18:=List Ent × Rep
def O6 (d:List Ent)(e:Int):Out18:=(d,xK e)
def iO (d:List Ent)(r:List Ent × Int)(p:Rep):Out18:=if r.2=0 then (r.1,p) else O6 d r.2
def rC (d:List Ent)(k v:Bs):Out18:=iO d (P7 d k v) oJ
def AF (d:List Ent)(x:Pkt):Out18:=if bD x.d=false\/0<wR x.d\/eG x.g=false then O6 d 1 else iO d (aJ d x.g x.d x.a) oJ
def zS (d:List Ent)(x:Pkt):Out18:=if bD x.d=false\/eG x.f=false\/eG x.g=false then O6 d 1 else iO d (bC d x.f x.g x.d x.a) oJ
def pI (d:List Ent)(x:TxX):Out18:=if J6 x.i=false then O6 d 1 else if Q4 d x.i=true then O6 d 13 else if uE x.y x.e x.h≠0 then O6 d (uE x.y x.e x.h) else rC d (I9 [67] x.i) (Y1 (uD x.y x.e x.h))
def qG (d:List Ent)(x:TxX)(t:Int):Out18:=if Q4 d x.i=false then O6 d 12 else if gV (U9 d x.i) x.h x.m t≠0 then O6 d (gV (U9 d x.i) x.h x.m t) else rC d (I9 [67] x.i) (Y1 (kN (U9 d x.i) x.h x.m t))
def GU (d:List Ent)(x:TxX)(i k:Bs)(try':Bool)(t:Int):Out18:=
 if try'=false then (if (FY x.o x.q).2≠0 then O6 d (FY x.o x.q).2 else rC d (I9 k x.i) (lM (FY x.o x.q).1))
 else if bK d i x.t t (I9 k x.p) (lM ⟨1,x.q,x.o,[]⟩) x.f≠0 then O6 d (bK d i x.t t (I9 k x.p) (lM ⟨1,x.q,x.o,[]⟩) x.f)
 else if (EJ x.o x.p ⟨1,x.q,x.o,[]⟩).2≠0 then O6 d (EJ x.o x.p ⟨1,x.q,x.o,[]⟩).2
 else rC d (I9 k x.i) (lM (EJ x.o x.p ⟨1,x.q,x.o,[]⟩).1)
def AX (d:List Ent)(x:TxX)(t:Int):Out18:=if J6 x.i=false then O6 d 1 else if M0 d [75] x.i=true then O6 d 13 else if Q4 d x.o=false then O6 d 12 else GU d x x.o [75] (decide (x.k=6)) t
def zO (d:List Ent)(x:TxX)(t:Int):Out18:=if J6 x.i=false then O6 d 1 else if M0 d [72] x.i=true then O6 d 13 else if M0 d [75] x.o=false then O6 d 12 else if (C9 d [75] x.o).s≠3 then O6 d 13 else GU d x (C9 d [75] x.o).o [72] (decide (x.k=10)) t
def yY (own:EndX)(i:Bs)(ack:Bool):EndX:=⟨if ack=true then 2 else 3,own.q,own.o,i⟩
def FW (d:List Ent)(x:TxX)(own:EndX)(i k:Bs)(ack:Bool)(t:Int):Out18:=
 if bK d i x.t t (I9 k (if ack=true then x.p else own.p)) (lM (yY own x.i ack)) x.f≠0 then O6 d (bK d i x.t t (I9 k (if ack=true then x.p else own.p)) (lM (yY own x.i ack)) x.f)
 else if (if ack=true then MG own x.i x.p (yY own x.i ack) else LF own x.i (yY own x.i ack)).2≠0 then O6 d (if ack=true then MG own x.i x.p (yY own x.i ack) else LF own x.i (yY own x.i ack)).2
 else rC d (I9 k x.i) (lM (if ack=true then MG own x.i x.p (yY own x.i ack) else LF own x.i (yY own x.i ack)).1)
def AY (d:List Ent)(x:TxX)(t:Int):Out18:=if M0 d [75] x.i=false then O6 d 12 else FW d x (C9 d [75] x.i) (C9 d [75] x.i).o [75] (decide (x.k=7)) t
def zP (d:List Ent)(x:TxX)(t:Int):Out18:=if M0 d [72] x.i=false\/M0 d [75] (C9 d [72] x.i).o=false then O6 d 12 else FW d x (C9 d [72] x.i) (C9 d [75] (C9 d [72] x.i).o).o [72] (decide (x.k=11)) t
def jP (d:List Ent)(i:Bs)(asked:EndX->Bool):Int:=if M0 d [72] i=false then 12 else if (C9 d [72] i).s≠3\/asked (C9 d [72] i)=false then 13 else 0
def nU (d:List Ent)(i:Bs):Bool:=M0 d [75] (C9 d [72] i).o
def R9 (d:List Ent)(i:Bs):Bs:=(C9 d [75] (C9 d [72] i).o).o
def goes (d:List Ent)(x:Pkt):Pkt:={ x with q:=V8 d x.s,k:=(C9 d [72] x.s).p }
def qJ (d:List Ent)(x:Pkt):Out18:=
 if jP d x.s (λ_=>true)≠0 then O6 d (jP d x.s λ_=>true)
 else if X3 (goes d x)=false then O6 d 1
 else if nU d x.s=false\/Q4 d (R9 d x.s)=false then O6 d 12
 else if V9 (goes d x) (dK (U9 d (R9 d x.s)).l).h (dK (U9 d (R9 d x.s)).l).t=true then O6 d 21
 else iO d (Y7 (λd=>eU d (goes d x)) (Y7 (λy=>P7 y (F6 [80] x.s (goes d x).q) (aM (goes d x))) (λy=>P7 y (I9 [78] x.s) (D7 110 ((goes d x).q+1)))) d) ⟨0,(goes d x).q,[]⟩
def xB (d:List Ent)(x:Pkt):Bs:=if (aI d x).2=0 then [43] else CS (aI d x).2
def qW (d:List Ent)(x:TxX)(h t:Int):Out18:=
 if X3 x.x=false then O6 d 1
 else if jP d x.x.k (λc=>decide (c.p=x.x.s))≠0 then O6 d (jP d x.x.k λc=>decide (c.p=x.x.s))
 else if V9 x.x h t=true then O6 d 21
 else if (gO d (F6 [71] x.x.k x.x.q)).isSome=true then O6 d 20
 else if nU d x.x.k=false then O6 d 12
 else if bK d (R9 d x.x.k) x.t t (F6 [80] x.x.s x.x.q) (aM x.x) x.f≠0 then O6 d (bK d (R9 d x.x.k) x.t t (F6 [80] x.x.s x.x.q) (aM x.x) x.f)
 else iO d (P7 (if (aI d x.x).2=0 then (aI d x.x).1 else d) (F6 [71] x.x.k x.x.q) (xP (xB d x.x))) ⟨0,0,xB d x.x⟩
def vR (d:List Ent)(x:Pkt)(b:Bool)(e:Int):Out18:=
 if jP d x.s (λc=>decide (c.p=x.k))≠0 then O6 d (jP d x.s λc=>decide (c.p=x.k))
 else if gO d (F6 [80] x.s x.q)≠some (aM x)\/nU d x.s=false then O6 d 12
 else if e≠0 then O6 d e
 else if b=true/\(jZ d x).2≠0 then O6 d (jZ d x).2
 else (mZ (if b=true then (jZ d x).1 else d) (F6 [80] x.s x.q),oJ)
def uN (d:List Ent)(x:TxX)(t:Int):Out18:=if X3 x.x=false\/wD x.a=false then O6 d 1 else vR d x.x (decide (yP x.a≠0)) (bK d (R9 d x.x.s) x.t t (F6 [71] x.x.k x.x.q) (xP x.a) x.f)
def wI (d:List Ent)(x:TxX)(t:Int):Int:=if lL d (R9 d x.x.s) x.t t (F6 [71] x.x.k x.x.q) x.g=0/\V9 x.x (mV d (R9 d x.x.s) x.t t (F6 [71] x.x.k x.x.q) x.g).h (mV d (R9 d x.x.s) x.t t (F6 [71] x.x.k x.x.q) x.g).t=false then 21 else lL d (R9 d x.x.s) x.t t (F6 [71] x.x.k x.x.q) x.g
def tH (d:List Ent)(x:TxX)(t:Int):Out18:=if X3 x.x=false then O6 d 1 else vR d x.x true (wI d x t)
def H9 (d:List Ent)(x:TxX)(h t:Int):Out18:=
 if x.k=1 then AF d x.x else if x.k=2 then zS d x.x else if x.k=3 then pI d x else if x.k=4 then qG d x t
 else if x.k=5\/x.k=6 then AX d x t else if x.k=7\/x.k=8 then AY d x t else if x.k=9\/x.k=10 then zO d x t else if x.k=11\/x.k=12 then zP d x t
 else if x.k=13 then qJ d x.x else if x.k=14 then qW d x h t else if x.k=15 then uN d x t else if x.k=16 then tH d x t else O6 d 1
end Go.Proofs.Z
