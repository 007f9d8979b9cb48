/- . -/
import Derived.Test.YtjhnaegpchadiaaGreatDoorN25
set_option maxHeartbeats 64000000
namespace Go.Proofs.YtjhnaegpchadiaaGreatDoor
open Go Go.RowKit Tw Av Go.Proofs.Tryz
def EJ (s:Bs):Bs:=D8 99 32 s false
def jX (s:Bs):Bs:=j5 99 32 s false
def nM (s:Bs):Bool:=z8 99 32 s false
def PW (s:Bs):Bs:=D8 107 64 (jX s) (nM s)
def jW (s:Bs):Bs:=j5 107 64 (jX s) (nM s)
def nL (s:Bs):Bool:=z8 107 64 (jX s) (nM s)
def PV (s:Bs):Int:=K3 112 1099511627776 (jW s) (nL s)
def jV (s:Bs):Bs:=j5 112 8 (jW s) (nL s)
def nK (s:Bs):Bool:=K8 112 1099511627776 (jW s) (nL s)
def PX (s:Bs):Bool:=decide (K3 102 1 (jV s) (nK s)=1)
def eY (s:Bs):Bs:=j5 102 8 (jV s) (nK s)
def iZ (s:Bs):Bool:=K8 102 1 (jV s) (nK s)
def lQ (s:Bs):List Bs:=fO 115 32 200 (eY s) (iZ s)
def xL (s:Bs):Int:=R3 (j5 115 16777215 (eY s) (iZ s)) (bH 115 32 200 (eY s) (iZ s))
def iY (C t:Bs):Bool:=decide (nD t=0)&&decide ((Y5 t).c=C)
def vZ (s:Bs):Cli:=⟨EJ s,PW s,PV s,PX s,(lQ s).map fun t=>R7 (Y5 t)⟩
def xK (s:Bs):Bool:=(lQ s).all (iY (EJ s))&&(decide (xL s=0)&&V6 (vZ s))
def nJ (s:Bs):Cli:=if xK s=true then vZ s else mM
def iX (s:Bs):Int:=if xK s=true then 0 else 10
theorem PM {s:Bs}:j5 99 32 s false=jX s:=rfl
theorem ZR {s:Bs}:z8 99 32 s false=nM s:=rfl
theorem PL {s:Bs}:j5 107 64 (jX s) (nM s)=jW s:=rfl
theorem ZQ {s:Bs}:z8 107 64 (jX s) (nM s)=nL s:=rfl
theorem PK {s:Bs}:j5 112 8 (jW s) (nL s)=jV s:=rfl
theorem ZP {s:Bs}:K8 112 1099511627776 (jW s) (nL s)=nK s:=rfl
theorem PI {s:Bs}:j5 102 8 (jV s) (nK s)=eY s:=rfl
theorem ZO {s:Bs}:K8 102 1 (jV s) (nK s)=iZ s:=rfl
theorem JO {s:Bs}:fO 115 32 200 (eY s) (iZ s)=lQ s:=rfl
theorem Ar (s:Bs):(jX s).length<=s.length/\(jW s).length<=s.length/\(jV s).length<=s.length/\(eY s).length<=s.length:=by
 have h1:=(X5 99 32 s false).1;have h2:=(X5 107 64 (jX s) (nM s)).1;have h3:=(X5 112 8 (jW s) (nL s)).1;have h4:=(X5 102 8 (jV s) (nK s)).1;rw[PM] at h1;rw[PL] at h2;rw[PK] at h3;rw[PI] at h4;exact⟨h1,om,om,om⟩
theorem Me {α:Type}{l:List α}{p:α->Bool}{i:Nat}(hi:i<l.length)(h:(l.take i).all p=true)(h2:p l[i]=true):(l.take (i+1)).all p=true:=by
 rw[List.take_succ_eq_append_getElem hi,List.all_append,h];simp[h2]
theorem MM {α:Type}{l:List α}{p:α->Bool}{i:Nat}(hi:i<l.length)(h2:p l[i]=false):l.all p=false:=by
 rw[List.all_eq_false];exact⟨l[i],List.getElem_mem hi,by simp[h2]⟩
theorem Kw {c most:Int}(h:0<=most):∀ {f:Nat} {s:Bs} {b:Bool} {x:Bs},x∈(fE c most f s b).1->(x.length:Int)<=most
 | 0,_,_,_,hx=>by simp[fE] at hx
 | f+1,s,b,x,hx=>by
  rw[fE] at hx;split at hx
  ·simp at hx
  ·rcases List.mem_cons.1 hx with rfl|hx
   ·exact(uI c most s b).2 h
   ·exact Kw h hx
theorem Au {c many most:Int}{s:Bs}{b:Bool}{x:Bs}(h:0<=most)(hx:x∈fO c many most s b):(x.length:Int)<=most:=by
 unfold fO xM at hx;split at hx
 ·simp at hx
 ·exact Kw h hx
theorem Aw {c many most:Int}{s:Bs}{b:Bool}(h0:0<=many):((fO c many most s b).length:Int)<=many:=by
 unfold fO xM;split
 ·simpa using h0
 ·rename_i h;unfold vH at h;by_cases hm:many<((yR c most (D8 c 16777215 s b)).1.length:Int)
  ·rw[dT hm] at h;simp at h
  ·omega
theorem wK:Imp (.tup [.agg 5 [.lit (.string ⟨#[]⟩),.lit (.string ⟨#[]⟩),.lit (.int .i64 0),.lit (.bool false),.lit (.slice none 0 0)],int 10]) (.tup [kZ mM,int 10]):=(inferInstance:ImpR _ (.tup [.agg 5 [str [],str [],int 0,j3 false,.sl 34 [] none],int 10])).imp
theorem En {C K:Bs}{Pd:Int}{Fr:Bool}{xs:List AV}{v:Value}:Imp (.tup [.agg 5 [str C,str K,int Pd,j3 Fr,.sl 34 xs (some v)],int 0]) (.tup [.agg 5 [str C,str K,int Pd,j3 Fr,.sl 34 xs none],int 0]):=ImpR.imp
theorem El {C K:Bs}{Pd:Int}{Fr:Bool}:ImpC (.agg 5 [str C,str K,int Pd,j3 Fr,.lit (.slice none 0 0)]) (.agg 5 [str C,str K,int Pd,j3 Fr,.sl 34 [] (some (.slice none 0 0))]):=fun ok w cs h=>by
 rw[RC] at h ⊢;refine⟨h.1,?_⟩;have h:=h.2;rw[RCs] at h ⊢;obtain⟨a1,b1,e1,f1,h⟩:=h;refine⟨a1,b1,e1,f1,?_⟩;rw[RCs] at h ⊢;obtain⟨a1,b1,e1,f1,h⟩:=h;refine⟨a1,b1,e1,f1,?_⟩;rw[RCs] at h ⊢;obtain⟨a1,b1,e1,f1,h⟩:=h;refine⟨a1,b1,e1,f1,?_⟩;rw[RCs] at h ⊢;obtain⟨a1,b1,e1,f1,h⟩:=h;refine⟨a1,b1,e1,f1,?_⟩;rw[RCs] at h ⊢;obtain⟨a1,b1,e1,f1,h⟩:=h;exact⟨a1,b1,e1,ImpC.nilT _ _ _ f1,h⟩
instance b5B {s:Bs}:Ans prog GL 71 [str s] (s.length<=1000000000) (.tup [kZ (nJ s),int (iX s)]):=⟨fun hl=>by
 obtain⟨l1,l2,l3,l4⟩:=Ar s;have e1:(jX s).length=(j5 99 32 s false).length:=rfl;have e2:(jW s).length=(j5 107 64 (j5 99 32 s false) (z8 99 32 s false)).length:=rfl;have e3:(jV s).length=(j5 112 8 (j5 107 64 (j5 99 32 s false) (z8 99 32 s false)) (z8 107 64 (j5 99 32 s false) (z8 99 32 s false))).length:=rfl;have e4:(eY s).length=(j5 102 8 (j5 112 8 (j5 107 64 (j5 99 32 s false) (z8 99 32 s false)) (z8 107 64 (j5 99 32 s false) (z8 99 32 s false))) (K8 112 1099511627776 (j5 107 64 (j5 99 32 s false) (z8 99 32 s false)) (z8 107 64 (j5 99 32 s false) (z8 99 32 s false)))).length:=rfl;refine qF func71 ntmps71 fun _ hs=>?_;repeat' first|refine Yz ?_|intro _
 refine I8 (args:=[str s]) [] _ (by rw[hs];exact sP) (fun u m1 hh=>?_) lpr;obtain⟨gr,rfl,rfl⟩:=hh;repeat' first|refine Yz ?_|intro _
 rw[PM,ZR,PL,ZQ,PK,ZP,PI,ZO,JO];have hE:xL s=R3 (j5 115 16777215 (eY s) (iZ s)) (bH 115 32 200 (eY s) (iZ s)):=rfl;have hV:vZ s=⟨D8 99 32 s false,D8 107 64 (jX s) (nM s),K3 112 1099511627776 (jW s) (nL s),decide (K3 102 1 (jV s) (nK s)=1),(lQ s).map fun t=>R7 (Y5 t)⟩:=rfl;have hK:xK s=((lQ s).all (iY (D8 99 32 s false))&&(decide (xL s=0)&&V6 (vZ s))):=rfl;have hm:=fun t (ht:t∈lQ s)=>Au (c:=115) (many:=32) (most:=200) dc ht;have hn:=Aw (c:=115) (many:=32) (most:=200) (s:=eY s) (b:=iZ s) dc;rw[JO] at hn;rw[nJ,iX,hK,hV];rw[hE];generalize lQ s=L at *;generalize j5 115 16777215 (eY s) (iZ s)=S5 at *;generalize bH 115 32 200 (eY s) (iZ s)=B5 at *;generalize D8 99 32 s false=C at *;generalize D8 107 64 (jX s) (nM s)=K at *;generalize K3 112 1099511627776 (jW s) (nL s)=Pd at *;generalize decide (K3 102 1 (jV s) (nK s)=1)=Fr at *;have hml:(L.map str).length=L.length:=llm _;rename_i g2 g5;refine gK (g:=g5) (v':=.agg 5 [str C,str K,int Pd,j3 Fr,.sl 34 [] (some (.slice none 0 0))]) El ?_;refine Q6 (fun ok w h=>h.full 93 34 none 0) ?_;refine y5 (α:=Nat × Value) (fun q=>[(2,ptr g2),(4,ptr gr),(5,ptr g5),(26,.sl 1 (L.map str) none),(27,int L.length),(28,int q.1)])
  (fun q=>[.tail 93 34 q.2,.var g5 89 (.agg 5 [str C,str K,int Pd,j3 Fr,.sl 34 (((L.take q.1).map fun t=>R7 (Y5 t)).map D7) (some q.2)]),.var gr 286 (C8 S5 B5),.var g2 89 (.agg 5 [str [],str [],int 0,j3 false,A7])])
  (fun q=>q.1<=L.length/\(L.take q.1).all (iY C)=true) (fun q=>L.length-q.1) (0,.slice none 0 0) ⟨rfl,rfl,rfl,rfl,by rw[<- hml];rfl,rfl,trivial⟩ slr ⟨Nat.zero_le _,rfl⟩ ?_
 rintro⟨i,v⟩ ⟨h1,h2⟩;dsimp only at h1 h2 ⊢;repeat' first|refine Yz ?_|intro _
 refine o8 (fun hlt=>?_) (fun hlt=>?_)
 ·have hil:i<L.length:=om
  have ht:=hm L[i] (List.getElem_mem hil);have hml2:((L.take i).map fun t=>R7 (Y5 t)).length<=32:=by simp;omega
  repeat' first|refine Yz ?_|intro _
  by_cases he:nD L[i]=0
  rotate_left
  ·rw[MM hil (show iY C L[i]=false by unfold iY;rw[dZ he];rfl),Bool.false_and];repeat' first|refine Yz ?_|intro _
   refine E5 ?_;exact wK
  by_cases hcc:(Y5 L[i]).c=C
  rotate_left
  ·rw[MM hil (show iY C L[i]=false by unfold iY;rw[dZ hcc,Bool.and_false]),Bool.false_and];repeat' first|refine Yz ?_|intro _
   rw[dT (show (Y5 L[i]).c≠C from hcc)];repeat' first|refine Yz ?_|intro _
   refine E5 ?_;exact wK
  ·repeat' first|refine Yz ?_|intro _
   rw[dZ (show ¬ (Y5 L[i]).c≠C from fun h=>h hcc)];repeat' first|refine Yz ?_|intro _
   apply Y8 [1];exact rfl;exact rfl;exact rfl;kernel_rfl;intro _ _;refine I1 (fun v'=>?_);refine j4 (R6 [.tail 93 34 v'] [] rfl rfl lpr rfl ?_);repeat' first|refine Yz ?_|intro _
   refine o6 (i+1,v') ⟨rfl,rfl,rfl,rfl,rfl,rfl,trivial⟩ ?_ ⟨hil,Me hil h2 (by unfold iY;rw[dT he,dT hcc];rfl)⟩ (by dsimp only;omega);dsimp only;rw[List.take_succ_eq_append_getElem hil,List.map_append,List.map_append];exact List.Sublist.cons _ slr
 ·obtain rfl:i=L.length:=by omega
  rw[List.take_length] at h2 ⊢;rw[h2,Bool.true_and];repeat' first|refine Yz ?_|intro _
  by_cases hE0:R3 S5 B5=0
  rotate_left
  ·rw[dZ hE0,Bool.false_and];repeat' first|refine Yz ?_|intro _
   refine E5 ?_;exact wK
  rw[dT hE0,Bool.true_and];repeat' first|refine Yz ?_|intro _
  cases hmc:V6 ⟨C,K,Pd,Fr,L.map fun t=>R7 (Y5 t)⟩
  ·repeat' first|refine Yz ?_|intro _
   refine E5 ?_;exact wK
  ·repeat' first|refine Yz ?_|intro _
   refine E5 ?_;exact En⟩
instance b2Q {s:Bs}:Ans prog GL 436 [str s] (s.length<=1000000000) (.tup [kZ (nJ s),int (iX s)]):=⟨fun hl=>by
 obtain⟨l1,l2,l3,l4⟩:=Ar s;have e1:(jX s).length=(j5 99 32 s false).length:=rfl;have e2:(jW s).length=(j5 107 64 (j5 99 32 s false) (z8 99 32 s false)).length:=rfl;have e3:(jV s).length=(j5 112 8 (j5 107 64 (j5 99 32 s false) (z8 99 32 s false)) (z8 107 64 (j5 99 32 s false) (z8 99 32 s false))).length:=rfl;have e4:(eY s).length=(j5 102 8 (j5 112 8 (j5 107 64 (j5 99 32 s false) (z8 99 32 s false)) (z8 107 64 (j5 99 32 s false) (z8 99 32 s false))) (K8 112 1099511627776 (j5 107 64 (j5 99 32 s false) (z8 99 32 s false)) (z8 107 64 (j5 99 32 s false) (z8 99 32 s false)))).length:=rfl;refine qF func436 ntmps436 fun _ hs=>?_;repeat' first|refine Yz ?_|intro _
 rw[PM,ZR,PL,ZQ,PK,ZP,PI,ZO,JO];have hE:xL s=R3 (j5 115 16777215 (eY s) (iZ s)) (bH 115 32 200 (eY s) (iZ s)):=rfl;have hV:vZ s=⟨D8 99 32 s false,D8 107 64 (jX s) (nM s),K3 112 1099511627776 (jW s) (nL s),decide (K3 102 1 (jV s) (nK s)=1),(lQ s).map fun t=>R7 (Y5 t)⟩:=rfl;have hK:xK s=((lQ s).all (iY (D8 99 32 s false))&&(decide (xL s=0)&&V6 (vZ s))):=rfl;have hm:=fun t (ht:t∈lQ s)=>Au (c:=115) (many:=32) (most:=200) dc ht;have hn:=Aw (c:=115) (many:=32) (most:=200) (s:=eY s) (b:=iZ s) dc;rw[JO] at hn;rw[nJ,iX,hK,hV];rw[hE];generalize lQ s=L at *;generalize j5 115 16777215 (eY s) (iZ s)=S5 at *;generalize bH 115 32 200 (eY s) (iZ s)=B5 at *;generalize D8 99 32 s false=C at *;generalize D8 107 64 (jX s) (nM s)=K at *;generalize K3 112 1099511627776 (jW s) (nL s)=Pd at *;generalize decide (K3 102 1 (jV s) (nK s)=1)=Fr at *;have hml:(L.map str).length=L.length:=llm _;by_cases hE0:R3 S5 B5=0
 rotate_left
 ·rw[dZ hE0,Bool.false_and,Bool.and_false];repeat' first|refine Yz ?_|intro _
  refine E5 ?_;exact wK
 rw[dT hE0,Bool.true_and];repeat' first|refine Yz ?_|intro _
 rename_i g2 gr g5;refine gK (g:=g5) (v':=.agg 5 [str C,str K,int Pd,j3 Fr,.sl 34 [] (some (.slice none 0 0))]) El ?_;refine Q6 (fun ok w h=>h.full 93 34 none 0) ?_;refine y5 (α:=Nat × Value) (fun q=>[(2,ptr g2),(4,ptr gr),(5,ptr g5),(6,.sl 1 (L.map str) none),(7,int q.1)])
  (fun q=>[.tail 93 34 q.2,.var g5 89 (.agg 5 [str C,str K,int Pd,j3 Fr,.sl 34 (((L.take q.1).map fun t=>R7 (Y5 t)).map D7) (some q.2)]),.var gr 220 (C8 S5 B5),.var g2 89 (.agg 5 [str [],str [],int 0,j3 false,A7])])
  (fun q=>q.1<=L.length/\(L.take q.1).all (iY C)=true) (fun q=>L.length-q.1) (0,.slice none 0 0) ⟨rfl,rfl,rfl,rfl,rfl,trivial⟩ slr ⟨Nat.zero_le _,rfl⟩ ?_
 rintro⟨i,v⟩ ⟨h1,h2⟩;dsimp only at h1 h2 ⊢;repeat' first|refine Yz ?_|intro _
 refine o8 (fun hlt=>?_) (fun hlt=>?_)
 ·have hil:i<L.length:=om
  have ht:=hm L[i] (List.getElem_mem hil);have hml2:((L.take i).map fun t=>R7 (Y5 t)).length<=32:=by simp;omega
  repeat' first|refine Yz ?_|intro _
  by_cases he:nD L[i]=0
  rotate_left
  ·rw[MM hil (show iY C L[i]=false by unfold iY;rw[dZ he];rfl),Bool.false_and];repeat' first|refine Yz ?_|intro _
   refine E5 ?_;exact wK
  by_cases hcc:(Y5 L[i]).c=C
  rotate_left
  ·rw[MM hil (show iY C L[i]=false by unfold iY;rw[dZ hcc,Bool.and_false]),Bool.false_and];repeat' first|refine Yz ?_|intro _
   rw[dT (show (Y5 L[i]).c≠C from hcc)];repeat' first|refine Yz ?_|intro _
   refine E5 ?_;exact wK
  ·repeat' first|refine Yz ?_|intro _
   rw[dZ (show ¬ (Y5 L[i]).c≠C from fun h=>h hcc)];repeat' first|refine Yz ?_|intro _
   refine I1 (fun v'=>?_);repeat' first|refine Yz ?_|intro _
   refine o6 (i+1,v') ⟨rfl,rfl,rfl,rfl,rfl,trivial⟩ ?_ ⟨hil,Me hil h2 (by unfold iY;rw[dT he,dT hcc];rfl)⟩ (by dsimp only;omega);dsimp only;rw[List.take_succ_eq_append_getElem hil,List.map_append,List.map_append];exact List.Sublist.cons _ slr
 ·obtain rfl:i=L.length:=by omega
  rw[List.take_length] at h2 ⊢;rw[h2,Bool.true_and];repeat' first|refine Yz ?_|intro _
  cases hmc:V6 ⟨C,K,Pd,Fr,L.map fun t=>R7 (Y5 t)⟩
  ·repeat' first|refine Yz ?_|intro _
   refine E5 ?_;exact wK
  ·repeat' first|refine Yz ?_|intro _
   refine E5 ?_;exact En⟩
end Go.Proofs.YtjhnaegpchadiaaGreatDoor

namespace Go.Proofs.YtjhnaegpchadiaaGreatDoor
open Go Go.RowKit Tw Av
theorem MB {x:Hdr}:Q4 x=true↔(1<=x.c.length/\x.c.length<=32/\1<=x.h/\x.h<=1099511627776/\0<=x.t/\x.t<=1099511627776):=by
 unfold Q4;exact decide_eq_true_iff
theorem ZJ {x:Hdr}(h:Q4 x=true):Y5 (O7 x)=x/\nD (O7 x)=0:=by
 obtain⟨c1,c2,c3,c4,c5,c6⟩:=MB.1 h;have hB:O7 x=j6 99 x.c++(p9 104 x.h++(p9 116 x.t++(j6 114 x.r.l++[]))):=by
  unfold O7;simp
 obtain⟨a1,a2,a3⟩:=rH (c:=99) (most:=32) (s:=x.c) (r:=p9 104 x.h++(p9 116 x.t++(j6 114 x.r.l++[]))) dc dc om om;obtain⟨b1,b2,b3⟩:=rJ (c:=104) (most:=1099511627776) (n:=x.h) (r:=p9 116 x.t++(j6 114 x.r.l++[])) dc dc om c4 dc;obtain⟨d1,d2,d3⟩:=rJ (c:=116) (most:=1099511627776) (n:=x.t) (r:=j6 114 x.r.l++[]) dc dc c5 c6 dc;have hr:=x.r.len;obtain⟨f1,f2,f3⟩:=rH (c:=114) (most:=32) (s:=x.r.l) (r:=[]) dc dc om om;have s1:iV (O7 x)=p9 104 x.h++(p9 116 x.t++(j6 114 x.r.l++[])):=by unfold iV;rw[hB,a2]
 have t1:nG (O7 x)=false:=by unfold nG;rw[hB,a3]
 have s2:iU (O7 x)=p9 116 x.t++(j6 114 x.r.l++[]):=by unfold iU;rw[s1,t1,b2]
 have t2:nE (O7 x)=false:=by unfold nE;rw[s1,t1,b3]
 have s3:cK (O7 x)=j6 114 x.r.l++[]:=by unfold cK;rw[s2,t2,d2]
 have t3:gU (O7 x)=false:=by unfold gU;rw[s2,t2,d3]
 have hX:zL (O7 x)=x.r.l:=by unfold zL;rw[s3,t3,f1]
 have hE:xH (O7 x)=0:=by unfold xH;rw[s3,t3,f2,f3];rfl
 have hV:vX (O7 x)=x:=by
  unfold vX;rw[s1,t1,s2,t2,hX,b1,d1,hB,a1];have:R9 x.r.l=x.r:=by
   unfold R9;rw[dif_pos hr]
  rw[this]
 have hk:jT (O7 x)=true:=by
  unfold jT;rw[hX,hE,hV,h,dT hr];rfl
 unfold Y5 nD;rw[if_pos hk,if_pos hk,hV];exact⟨rfl,rfl⟩
theorem a0y {x:Hdr}(h:Q4 x=true):(O7 x).length<=150:=by
 obtain⟨c1,c2,c3,c4,c5,c6⟩:=MB.1 h;have hr:=x.r.len;have h1:(digits x.h.toNat).length<=8:=yH 8 _;have h2:(digits x.t.toNat).length<=8:=yH 8 _;unfold O7;rw[show p9 104 x.h=j6 104 (digits x.h.toNat) from rfl,show p9 116 x.t=j6 116 (digits x.t.toNat) from rfl,qW om,qW om,qW om,qW om];simp;omega
theorem MN {x:Cli}:V6 x=true↔((x.k.length<=64/\1<=x.p/\x.p<=1099511627776/\1<=x.l.length/\x.l.length<=32)/\∀ i,i<x.l.length->kX x.c x.l i=true):=by
 unfold V6;rw[bet,decide_eq_true_iff,List.all_eq_true];simp
theorem RJ {x:Cli}(h:V6 x=true):∀ s∈x.l,Q4 (V9 x.c s)=true:=by
 intro s hs;obtain⟨i,hi,rfl⟩:=List.getElem_of_mem hs;have:=(MN.1 h).2 i hi;unfold kX at this;rw[Bool.and_eq_true,show x.l.getD i Q7=x.l[i] by simp[List.getD,hi]] at this;exact this.1
theorem Yb {x:Cli}(h:V6 x=true):x.c.length<=32:=by
 have h0:=(MN.1 h).1;have hx:0<x.l.length:=by omega
 have:=RJ h x.l[0] (List.getElem_mem hx);exact(MB.1 this).2.1
theorem PU {x:Cli}(h:V6 x=true):nJ (P5 x)=x/\iX (P5 x)=0:=by
 obtain⟨k1,k2,k3,k4,k5⟩:=(MN.1 h).1;have hc:=Yb h;have hch:=RJ h;have hH:∀ t∈x.l.map (fun s=>O7 (V9 x.c s)),t.length<=150:=by
  intro t ht;obtain⟨s,hs,rfl⟩:=List.mem_map.1 ht;exact a0y (hch s hs)
 have hB:P5 x=j6 99 x.c++(j6 107 x.k++(p9 112 x.p++(p9 102 (if x.f=true then 1 else 0)++(M3 115 (x.l.map fun s=>O7 (V9 x.c s))++[])))):=by
  unfold P5;simp only[List.append_assoc,List.append_nil]
 obtain⟨a1,a2,a3⟩:=rH (c:=99) (most:=32) (s:=x.c) (r:=j6 107 x.k++(p9 112 x.p++(p9 102 (if x.f=true then 1 else 0)++(M3 115 (x.l.map fun s=>O7 (V9 x.c s))++[])))) dc dc om om;obtain⟨b1,b2,b3⟩:=rH (c:=107) (most:=64) (s:=x.k) (r:=p9 112 x.p++(p9 102 (if x.f=true then 1 else 0)++(M3 115 (x.l.map fun s=>O7 (V9 x.c s))++[]))) dc dc om om;obtain⟨d1,d2,d3⟩:=rJ (c:=112) (most:=1099511627776) (n:=x.p) (r:=p9 102 (if x.f=true then 1 else 0)++(M3 115 (x.l.map fun s=>O7 (V9 x.c s))++[])) dc dc om k3 dc;obtain⟨f1,f2,f3⟩:=rJ (c:=102) (most:=1) (n:=if x.f=true then 1 else 0) (r:=M3 115 (x.l.map fun s=>O7 (V9 x.c s))++[]) dc dc (by split <;> decide) (by split <;> decide) dc;obtain⟨g1,g2,g3⟩:=JS (c:=115) (many:=32) (most:=200) (l:=x.l.map fun s=>O7 (V9 x.c s)) (r:=[]) dc dc (by rw[llm];omega) (fun t ht=>by have:=hH t ht;omega) (by
  have:=AX (c:=115) hH dc;rw[llm] at this;omega)
 have s1:jX (P5 x)=j6 107 x.k++(p9 112 x.p++(p9 102 (if x.f=true then 1 else 0)++(M3 115 (x.l.map fun s=>O7 (V9 x.c s))++[]))):=by unfold jX;rw[hB,a2]
 have t1:nM (P5 x)=false:=by unfold nM;rw[hB,a3]
 have s2:jW (P5 x)=p9 112 x.p++(p9 102 (if x.f=true then 1 else 0)++(M3 115 (x.l.map fun s=>O7 (V9 x.c s))++[])):=by unfold jW;rw[s1,t1,b2]
 have t2:nL (P5 x)=false:=by unfold nL;rw[s1,t1,b3]
 have s3:jV (P5 x)=p9 102 (if x.f=true then 1 else 0)++(M3 115 (x.l.map fun s=>O7 (V9 x.c s))++[]):=by unfold jV;rw[s2,t2,d2]
 have t3:nK (P5 x)=false:=by unfold nK;rw[s2,t2,d3]
 have s4:eY (P5 x)=M3 115 (x.l.map fun s=>O7 (V9 x.c s))++[]:=by unfold eY;rw[s3,t3,f2]
 have t4:iZ (P5 x)=false:=by unfold iZ;rw[s3,t3,f3]
 have hC:EJ (P5 x)=x.c:=by unfold EJ;rw[hB,a1]
 have hK:PW (P5 x)=x.k:=by unfold PW;rw[s1,t1,b1]
 have hP:PV (P5 x)=x.p:=by unfold PV;rw[s2,t2,d1]
 have hF:PX (P5 x)=x.f:=by
  unfold PX;rw[s3,t3,f1];cases x.f <;> rfl
 have hL:lQ (P5 x)=x.l.map fun s=>O7 (V9 x.c s):=by unfold lQ;rw[s4,t4,g1]
 have hE:xL (P5 x)=0:=by unfold xL;rw[s4,t4,g2,g3];rfl
 have hV:vZ (P5 x)=x:=by
  unfold vZ;rw[hC,hK,hP,hF,hL,List.map_map];have:x.l.map ((fun t=>R7 (Y5 t)) ∘ fun s=>O7 (V9 x.c s))=x.l:=by
   conv=>rhs;rw[<- List.map_id x.l]
   refine List.map_congr_left fun s hs=>?_;show R7 (Y5 (O7 (V9 x.c s)))=s;rw[(ZJ (hch s hs)).1];rfl
  rw[this]
 have hA:(lQ (P5 x)).all (iY (EJ (P5 x)))=true:=by
  rw[hC,hL,List.all_eq_true];intro t ht;obtain⟨s,hs,rfl⟩:=List.mem_map.1 ht;obtain⟨q1,q2⟩:=ZJ (hch s hs);unfold iY;rw[q1,q2];simp[V9]
 have hk:xK (P5 x)=true:=by
  unfold xK;rw[hA,hE,hV,h];rfl
 unfold nJ iX;rw[if_pos hk,if_pos hk,hV];exact⟨rfl,rfl⟩

structure TxX where
 k:Int
 i:Bs
 o:Bs
 p:Bs
 q:Bs
 y:Bs
 e:Int
 h:Hdr
 m:Hsh
 x:Pkt
 a:Bs
 t:Int
 f:Prf
 g:Gp
abbrev N7 (x:TxX):AV:=.agg 100 [int x.k,str x.i,str x.o,str x.p,str x.q,str x.y,int x.e,V8 x.h,hA x.m,KA x.x,str x.a,int x.t,jA x.f,AJ x.g]
structure Rep where
 e:Int
 q:Int
 a:Bs
deriving DecidableEq
abbrev N8 (r:Rep):AV:=.agg 3 [int r.e,int r.q,str r.a]
def lN:Rep:=⟨0,0,[]⟩
def vY (e:Int):Rep:=⟨e,0,[]⟩
def P8 (d:List Ent)(i:Bs):Cli:=nJ (P9 d (H6 [67] i))
def M8 (d:List Ent)(i:Bs):Bool:=decide (iX (P9 d (H6 [67] i))=0)
def H9 (d:List Ent)(k i:Bs):EndX:=kU (P9 d (H6 k i))
def P7 (d:List Ent)(k i:Bs):Bool:=decide (pJ (P9 d (H6 k i))=0)
def dY (d:List Ent)(i:Bs):Int:=if rU (P9 d (H6 [78] i))=0 then xR (P9 d (H6 [78] i)) else 1
def mU (d:List Ent)(i:Bs)(h t:Int):Int:=if M8 d i=false then 12 else if jM (P8 d i) t=false then 19 else if (rY (P8 d i).l h).isSome=false then 18 else 0
def sV (d:List Ent)(i:Bs)(h t:Int):Sta:=if mU d i h t=0 then (rY (P8 d i).l h).getD Q7 else Q7
def dB (d:List Ent)(i:Bs)(h t:Int)(k v:Bs)(p:Prf):Int:=if mU d i h t=0/\xV (sV d i h t).r ⟨k,v⟩ p=false then 18 else mU d i h t
def SL (d:List Ent)(i:Bs)(h t:Int)(k:Bs)(g:Gp):Int:=if mU d i h t=0/\Xw (sV d i h t).r k g=false then 18 else mU d i h t
def Ez (d:List Ent)(i:Bs)(h t:Int)(k:Bs)(g:Gp):Sta:=if SL d i h t k g=0 then sV d i h t else Q7
abbrev Out18:=List Ent × Rep
def M4 (d:List Ent)(e:Int):Out18:=(d,vY e)
def mR (d:List Ent)(r:List Ent × Int)(p:Rep):Out18:=if r.2=0 then (r.1,p) else M4 d r.2
def lT (d:List Ent)(k v:Bs):Out18:=mR d (R4 d k v) lN
def AR (d:List Ent)(x:Pkt):Out18:=if bA x.d=false\/0<tQ x.d\/fA x.g=false then M4 d 1 else mR d (eF d x.g x.d x.a) lN
def zW (d:List Ent)(x:Pkt):Out18:=if bA x.d=false\/fA x.f=false\/fA x.g=false then M4 d 1 else mR d (jC d x.f x.g x.d x.a) lN
def qI (d:List Ent)(x:TxX):Out18:=if I5 x.i=false then M4 d 1 else if M8 d x.i=true then M4 d 13 else if qB x.y x.e x.h≠0 then M4 d (qB x.y x.e x.h) else lT d (H6 [67] x.i) (P5 (pY x.y x.e x.h))
def mP (d:List Ent)(x:TxX)(t:Int):Out18:=if M8 d x.i=false then M4 d 12 else if bM (P8 d x.i) x.h x.m t≠0 then M4 d (bM (P8 d x.i) x.h x.m t) else lT d (H6 [67] x.i) (P5 (gL (P8 d x.i) x.h x.m t))
def MH (d:List Ent)(x:TxX)(i k:Bs)(try':Bool)(t:Int):Out18:=
 if try'=false then (if (AF x.o x.q).2≠0 then M4 d (AF x.o x.q).2 else lT d (H6 k x.i) (jG (AF x.o x.q).1))
 else if dB d i x.t t (H6 k x.p) (jG ⟨1,x.q,x.o,[]⟩) x.f≠0 then M4 d (dB d i x.t t (H6 k x.p) (jG ⟨1,x.q,x.o,[]⟩) x.f)
 else if (zC x.o x.p ⟨1,x.q,x.o,[]⟩).2≠0 then M4 d (zC x.o x.p ⟨1,x.q,x.o,[]⟩).2
 else lT d (H6 k x.i) (jG (zC x.o x.p ⟨1,x.q,x.o,[]⟩).1)
def BH (d:List Ent)(x:TxX)(t:Int):Out18:=if I5 x.i=false then M4 d 1 else if P7 d [75] x.i=true then M4 d 13 else if M8 d x.o=false then M4 d 12 else MH d x x.o [75] (decide (x.k=6)) t
def zR (d:List Ent)(x:TxX)(t:Int):Out18:=if I5 x.i=false then M4 d 1 else if P7 d [72] x.i=true then M4 d 13 else if P7 d [75] x.o=false then M4 d 12 else if (H9 d [75] x.o).s≠3 then M4 d 13 else MH d x (H9 d [75] x.o).o [72] (decide (x.k=10)) t
def vR (own:EndX)(i:Bs)(ack:Bool):EndX:=⟨if ack=true then 2 else 3,own.q,own.o,i⟩
def FC (d:List Ent)(x:TxX)(own:EndX)(i k:Bs)(ack:Bool)(t:Int):Out18:=
 if dB d i x.t t (H6 k (if ack=true then x.p else own.p)) (jG (vR own x.i ack)) x.f≠0 then M4 d (dB d i x.t t (H6 k (if ack=true then x.p else own.p)) (jG (vR own x.i ack)) x.f)
 else if (if ack=true then GR own x.i x.p (vR own x.i ack) else FT own x.i (vR own x.i ack)).2≠0 then M4 d (if ack=true then GR own x.i x.p (vR own x.i ack) else FT own x.i (vR own x.i ack)).2
 else lT d (H6 k x.i) (jG (if ack=true then GR own x.i x.p (vR own x.i ack) else FT own x.i (vR own x.i ack)).1)
def BJ (d:List Ent)(x:TxX)(t:Int):Out18:=if P7 d [75] x.i=false then M4 d 12 else FC d x (H9 d [75] x.i) (H9 d [75] x.i).o [75] (decide (x.k=7)) t
def zS (d:List Ent)(x:TxX)(t:Int):Out18:=if P7 d [72] x.i=false\/P7 d [75] (H9 d [72] x.i).o=false then M4 d 12 else FC d x (H9 d [72] x.i) (H9 d [75] (H9 d [72] x.i).o).o [72] (decide (x.k=11)) t
def BL (d:List Ent)(i:Bs)(asked:EndX->Bool):Int:=if P7 d [72] i=false then 12 else if (H9 d [72] i).s≠3\/asked (H9 d [72] i)=false then 13 else 0
def wT (d:List Ent)(i:Bs):Bool:=P7 d [75] (H9 d [72] i).o
def iB (d:List Ent)(i:Bs):Bs:=(H9 d [75] (H9 d [72] i).o).o
def goes (d:List Ent)(x:Pkt):Pkt:={ x with q:=dY d x.s,k:=(H9 d [72] x.s).p }
def zG (d:List Ent)(x:Pkt):Out18:=
 if BL d x.s (fun _=>true)≠0 then M4 d (BL d x.s fun _=>true)
 else if dO (goes d x)=false then M4 d 1
 else if wT d x.s=false\/M8 d (iB d x.s)=false then M4 d 12
 else if kI (goes d x) (dF (P8 d (iB d x.s)).l).h (dF (P8 d (iB d x.s)).l).t=true then M4 d 21
 else mR d (bN (fun d=>mW d (goes d x)) (bN (fun y=>R4 y (aC [80] x.s (goes d x).q) (nR (goes d x))) (fun y=>R4 y (H6 [78] x.s) (p9 110 ((goes d x).q+1)))) d) ⟨0,(goes d x).q,[]⟩
def GQ (d:List Ent)(x:Pkt):Bs:=if (cO d x).2=0 then [43] else LK (cO d x).2
def zO (d:List Ent)(x:TxX)(h t:Int):Out18:=
 if dO x.x=false then M4 d 1
 else if BL d x.x.k (fun c=>decide (c.p=x.x.s))≠0 then M4 d (BL d x.x.k fun c=>decide (c.p=x.x.s))
 else if kI x.x h t=true then M4 d 21
 else if (gO d (aC [71] x.x.k x.x.q)).isSome=true then M4 d 20
 else if wT d x.x.k=false then M4 d 12
 else if dB d (iB d x.x.k) x.t t (aC [80] x.x.s x.x.q) (nR x.x) x.f≠0 then M4 d (dB d (iB d x.x.k) x.t t (aC [80] x.x.s x.x.q) (nR x.x) x.f)
 else mR d (R4 (if (cO d x.x).2=0 then (cO d x.x).1 else d) (aC [71] x.x.k x.x.q) (EI (GQ d x.x))) ⟨0,0,GQ d x.x⟩
def LM (d:List Ent)(x:Pkt)(b:Bool)(e:Int):Out18:=
 if BL d x.s (fun c=>decide (c.p=x.k))≠0 then M4 d (BL d x.s fun c=>decide (c.p=x.k))
 else if gO d (aC [80] x.s x.q)≠some (nR x)\/wT d x.s=false then M4 d 12
 else if e≠0 then M4 d e
 else if b=true/\(wU d x).2≠0 then M4 d (wU d x).2
 else (lY (if b=true then (wU d x).1 else d) (aC [80] x.s x.q),lN)
def GN (d:List Ent)(x:TxX)(t:Int):Out18:=if dO x.x=false\/Oa x.a=false then M4 d 1 else LM d x.x (decide (Nz x.a≠0)) (dB d (iB d x.x.s) x.t t (aC [71] x.x.k x.x.q) (EI x.a) x.f)
def WY (d:List Ent)(x:TxX)(t:Int):Int:=if SL d (iB d x.x.s) x.t t (aC [71] x.x.k x.x.q) x.g=0/\kI x.x (Ez d (iB d x.x.s) x.t t (aC [71] x.x.k x.x.q) x.g).h (Ez d (iB d x.x.s) x.t t (aC [71] x.x.k x.x.q) x.g).t=false then 21 else SL d (iB d x.x.s) x.t t (aC [71] x.x.k x.x.q) x.g
def DD (d:List Ent)(x:TxX)(t:Int):Out18:=if dO x.x=false then M4 d 1 else LM d x.x true (WY d x t)
def E8 (d:List Ent)(x:TxX)(h t:Int):Out18:=
 if x.k=1 then AR d x.x else if x.k=2 then zW d x.x else if x.k=3 then qI d x else if x.k=4 then mP d x t
 else if x.k=5\/x.k=6 then BH d x t else if x.k=7\/x.k=8 then BJ d x t else if x.k=9\/x.k=10 then zR d x t else if x.k=11\/x.k=12 then zS d x t
 else if x.k=13 then zG d x.x else if x.k=14 then zO d x h t else if x.k=15 then GN d x t else if x.k=16 then DD d x t else M4 d 1
end Go.Proofs.YtjhnaegpchadiaaGreatDoor

namespace Av
open Go Go.RowKit Tw
theorem Hw {P:Program}{e:TypeId}{k:IntKind}(he:P.underlying e=some (.int k))(w:World)(d:Nat):∀ (n o:Nat) (la lb:List Int),la.length=o+n->lb.length=o+n ->
  (Op.eqItems (d+1) e 1 (la.map (Value.int k)).toArray (lb.map (Value.int k)).toArray (List.range' o n)).run P w=.ok (decide (la.drop o=lb.drop o)) w
 | 0,o,la,lb,h1,h2=>by
  rw[List.drop_of_length_le (l:=la) om,List.drop_of_length_le (l:=lb) om];simp[Op.eqItems]
 | n+1,o,la,lb,h1,h2=>by
  have hp:P.plainKey e=true:=by simp[Program.plainKey,he]
  have hla:o<la.length:=om
  have hlb:o<lb.length:=om
  have ea:(la.map (Value.int k)).toArray[o*1]?=some (Value.int k la[o]):=by simp[hla]
  have eb:(lb.map (Value.int k)).toArray[o*1]?=some (Value.int k lb[o]):=by simp[hlb]
  have hq:(Op.equalIn (d+1) e (Value.int k la[o]) (Value.int k lb[o])).run P w=.ok (decide (la[o]=lb[o])) w:=by
   rw[run_equalIn_int _ d e _ _ _ _ he];rfl
  rw[List.range'_succ];simp only[Op.eqItems,Sem.run_bind,run_part_plain w hp ea,run_part_plain w hp eb,Result.andThen_ok,hq];rw[List.drop_eq_getElem_cons hla,List.drop_eq_getElem_cons hlb];by_cases h:la[o]=lb[o]
  ·simp only[h,decide_true,Bool.not_true,Bool.false_eq_true,if_false,Hw he w d n (o+1) la lb om om,List.cons.injEq,true_and]
  ·have hf:decide (la[o]::la.drop (o+1)=lb[o]::lb.drop (o+1))=false:=by
    rw[decide_eq_false_iff_not,List.cons.injEq];exact fun e=>h e.1
   rw[hf];simp[h]
theorem Fu {ok:Ok}{w:World}{k:IntKind}{a b c d:Int}{v:Value}(hr:RV0 ok w (.agg 4 [.lit (.int k a),.lit (.int k b),.lit (.int k c),.lit (.int k d)]) v):v=.agg ([a,b,c,d].map (Value.int k)).toArray:=by
 obtain⟨cs,rfl,h⟩:=BX (RV.of0 hr);rw[RC,RCs] at h;obtain⟨_,c1,d1,rfl,g1,h⟩:=h;rw[RCs] at h;obtain⟨c2,d2,rfl,g2,h⟩:=h;rw[RCs] at h;obtain⟨c3,d3,rfl,g3,h⟩:=h;rw[RCs] at h;obtain⟨c4,d4,rfl,g4,h⟩:=h;rw[RCs] at h;subst h;rw[RC] at g1 g2 g3 g4;rw[g1.1,g2.1,g3.1,g4.1];rfl
instance {P:Program}{T e:TypeId}{k:IntKind}[t:TyA P T 4 e 1][te:TyI P e k]{a b c d a' b' c' d':Int}:Eqv P T (.agg 4 [.lit (.int k a),.lit (.int k b),.lit (.int k c),.lit (.int k d)]) (.agg 4 [.lit (.int k a'),.lit (.int k b'),.lit (.int k c'),.lit (.int k d')]) 1 (decide ([a,b,c,d]=[a',b',c',d'])):=⟨fun {ok w va vb} d hd ha hb=>by
 rw[Fu ha,Fu hb];obtain⟨i,hi,hc⟩:=Ei t.sz;obtain⟨d,rfl⟩:∃ d',d=d'+1:=⟨d-1,om⟩;rw[run_equalIn_array w (d+1) _ _ t.out hi,hc,List.range_eq_range',Hw te.out w d 4 0 _ _ rfl rfl];rfl⟩
theorem CV (a:Wd):decide ([((lm a.n 0:Nat):Int),(lm a.n 1:Nat),(lm a.n 2:Nat),(lm a.n 3:Nat)]=[0,0,0,0])=decide (a.n=0):=by
 rw[decide_eq_decide]
 constructor
 ·intro h;simp only[List.cons.injEq] at h;exact Wt a.lt wZ.lt (by rw[wI];omega) (by rw[wI];omega) (by rw[wI];omega) (by rw[wI];omega)
 ·intro h;rw[h,wI,wI,wI,wI];rfl
def RG (n m i:Nat):List AV:=(List.range 4).map fun j=>u6 (lm (if j<i then n else m) j)
instance {n m i:Nat}:Siz (RG n m i) 1:=by unfold RG;infer_instance
theorem b1o {n m i:Nat}(h:i<4):(RG n m i)[i]?=some (u6 (lm m i)):=by
 rcases i with _|_|_|_|i <;> first|rfl|omega
def kF (X Y:Nat->Nat)(i:Nat):List AV:=(List.range 4).map fun j=>u6 (if j<i then X j else Y j)
instance {X Y:Nat->Nat}{i:Nat}:Siz (kF X Y i) 1:=by unfold kF;infer_instance
theorem Ct (X Y:Nat->Nat)(i:Nat):(kF X Y i).length=4:=rfl
theorem Xv (X Y:Nat->Nat):kF X Y 0=[u6 (Y 0),u6 (Y 1),u6 (Y 2),u6 (Y 3)]:=rfl
theorem Xu (X Y:Nat->Nat):kF X Y 4=[u6 (X 0),u6 (X 1),u6 (X 2),u6 (X 3)]:=rfl
theorem Xq {X Y:Nat->Nat}{i:Nat}(h:i<4):(kF X Y i)[i]?=some (u6 (Y i)):=by
 rcases i with _|_|_|_|i <;> first|rfl|omega
theorem WF {n i:Nat}(h:i<4):[u6 (lm n 0),u6 (lm n 1),u6 (lm n 2),u6 (lm n 3)][i]?=some (u6 (lm n i)):=by
 rcases i with _|_|_|_|i <;> first|rfl|omega
end Av
namespace Go.Proofs.YtjhnaegpchadiaaGreatDoor
open Go Go.RowKit Tw Av
section
variable {N:Nat} {ops:Array Oper} {Q:Exit->Act->World->Prop} {rest:List Oper} {s:Av.Base} {e:Av.Env} {m:List Av.Piece} {d:Nat} {ty:TypeId} {pos:String} {af:Array Edge}
end
end Go.Proofs.YtjhnaegpchadiaaGreatDoor

namespace Av
open Go Go.RowKit Tw
section
variable {P:Program} {N:Nat} {ops:Array Oper} {Q:Exit->Act->World->Prop} {rest:List Oper} {s:Av.Base} {e:Av.Env} {m:List Av.Piece} {d:Nat} {ty:TypeId} {pos:String} {af:Array Edge}
theorem JY (k:Nat):2 ^ (8*k)=256 ^ k:=by rw[Nat.pow_mul]
theorem a4D {T yT:TypeId}{yk:IntKind}{x y:Operand}{a:Nat}{b:Int}(k:Nat)(h:AL P N ops Q s rest ((d,u6 (a / 256 ^ k))::e) m)(hx:ev e x=some (u6 a):=by exact rfl)(hy:ev e y=some (.lit (.int yk b)):=by exact rfl)(hb:b=((8*k:Nat):Int):=by omega)(hk:k<=8:=by omega)(hd:Nat.blt d N=true:=by exact rfl):AL P N ops Q s (⟨some d,.binOp .shr T x y yT,ty,pos,af,none⟩::rest) e m:=by
 refine yS (n:=8*k) ?_ hx hy (by rw[hb];rfl) (Nat.ble_eq_true_of_le (show 8*k<=64 by omega)) hd;rw[JY,<- Int.natCast_ediv];exact h
theorem a4E {T yT:TypeId}{yk:IntKind}{x y:Operand}{a:Nat}{b:Int}(k:Nat)(h:AL P N ops Q s rest ((d,u6 (256 ^ k*a))::e) m)(hx:ev e x=some (u6 a):=by exact rfl)(hy:ev e y=some (.lit (.int yk b)):=by exact rfl)(hb:b=((8*k:Nat):Int):=by omega)(ha:a<256:=by omega)(hk:k<=7:=by omega)(hd:Nat.blt d N=true:=by exact rfl):AL P N ops Q s (⟨some d,.binOp .shl T x y yT,ty,pos,af,none⟩::rest) e m:=
 BR rfl hx hy (fun w=>by
  subst hb;have h2:min (8*k) IntKind.u64.bits=8*k:=by show min (8*k) 64=_;omega
  have h3:256 ^ k*a<18446744073709551616:=by
   have h5:256 ^ k<=72057594037927936:=Nat.pow_le_pow_right (n:=256) dc hk;have h6:256 ^ k*a<=72057594037927936*255:=Nat.mul_le_mul h5 om;omega
  have e1:((a:Int)*2 ^ (8*k))=((256 ^ k*a:Nat):Int):=by
   rw[show ((2:Int) ^ (8*k))=((2 ^ (8*k):Nat):Int) by simp,JY,Nat.mul_comm];simp
  have h4:¬ (((8*k:Nat):Int)<0):=om
  simp only[Op.shift,Int.toNat_natCast,h2,e1,h4,if_false];show Result.ok (Value.int .u64 (IntKind.u64.wrap ((256 ^ k*a:Nat):Int))) w=_;rw[wrap_u64 _ h3]) (.inl rfl) hd h
theorem Wj {a c:Nat}(ha:a<18446744073709551616)(hc:c<18446744073709551616)(h:(a ||| c)<18446744073709551616)(P:Program)(w:World):(Op.intBits .or .u64 (a:Int) (c:Int)).run P w=.ok (.int .u64 ((a ||| c:Nat):Int)) w:=by
 have h2:(BitVec.ofInt 64 (a:Int) ||| BitVec.ofInt 64 (c:Int)).toNat=a ||| c:=by
  rw[BitVec.toNat_or,BitVec.ofInt_natCast,BitVec.ofInt_natCast,BitVec.toNat_ofNat,BitVec.toNat_ofNat,Nat.mod_eq_of_lt ha,Nat.mod_eq_of_lt hc]
 show Result.ok (Value.int .u64 (IntKind.u64.wrap ((BitVec.ofInt 64 (a:Int) ||| BitVec.ofInt 64 (c:Int)).toNat:Int))) w=_;rw[h2,wrap_u64 _ h]
theorem a4N {T yT:TypeId}{x y:Operand}{a c r:Nat}(h:AL P N ops Q s rest ((d,u6 (a+256 ^ r*c))::e) m)(hx:ev e x=some (u6 a):=by exact rfl)(hy:ev e y=some (u6 (256 ^ r*c)):=by exact rfl)(ha:a<256 ^ r)(hc:c<256)(hr:r<=7)(hd:Nat.blt d N=true:=by exact rfl):AL P N ops Q s (⟨some d,.binOp .or T x y yT,ty,pos,af,none⟩::rest) e m:=by
 have h0:256 ^ r<=72057594037927936:=Nat.pow_le_pow_right (n:=256) dc hr;have h1:256 ^ r*c+256 ^ r<=72057594037927936*256:=by
  rw[<- Nat.mul_succ];exact Nat.mul_le_mul h0 om
 have h2:=Wm (d:=c) ha;generalize 256 ^ r*c=X at *;generalize 256 ^ r=R at *;rw[<- h2] at h;exact yU rfl hx hy (fun w=>Wj om om om P w) (.inr (.inl rfl)) hd h
theorem a4u {a:Nat}(ha:a<18446744073709551616)(P:Program)(w:World):(Op.intBits .and .u64 (a:Int) ((255:Nat):Int)).run P w=.ok (.int .u64 ((a%256:Nat):Int)) w:=by
 have h2:(BitVec.ofInt 64 (a:Int) &&& BitVec.ofInt 64 ((255:Nat):Int)).toNat=a%256:=by
  rw[BitVec.toNat_and,BitVec.ofInt_natCast,BitVec.ofInt_natCast,BitVec.toNat_ofNat,BitVec.toNat_ofNat,Nat.mod_eq_of_lt ha,Nat.mod_eq_of_lt (show 255<2 ^ 64 by decide)];exact Nat.and_two_pow_sub_one_eq_mod a 8
 show Result.ok (Value.int .u64 (IntKind.u64.wrap ((BitVec.ofInt 64 (a:Int) &&& BitVec.ofInt 64 ((255:Nat):Int)).toNat:Int))) w=_;rw[h2,wrap_u64 _ om]
theorem a5S {T yT:TypeId}{x y:Operand}{a:Nat}(ha:a<18446744073709551616)(h:AL P N ops Q s rest ((d,u6 (a%256))::e) m)(hx:ev e x=some (u6 a):=by exact rfl)(hy:ev e y=some (.lit (.int .u64 255)):=by exact rfl)(hd:Nat.blt d N=true:=by exact rfl):AL P N ops Q s (⟨some d,.binOp .and T x y yT,ty,pos,af,none⟩::rest) e m:=
 yU rfl hx hy (fun w=>a4u ha P w) (.inl rfl) hd h
theorem NL (n:Nat):AV.lit (.int .u8 (IntKind.u8.wrap (n:Int)))=.lit (o5 (UInt8.ofNat n)):=by
 unfold o5;rw[IntKind.wrap_u8,UInt8.toNat_ofNat'];simp
theorem a3V {n j:Nat}(h:j<32):(eT n)[j]?=some (UInt8.ofNat (dg n (31-j))):=by
 unfold eT;rw[List.getElem?_reverse (by rw[aZ];exact h),aZ,TU om]
theorem a3U {n j:Nat}(h:j<32):(eT n).take (j+1)=(eT n).take j++[UInt8.ofNat (dg n (31-j))]:=by
 rw[List.take_add_one,a3V h];rfl
end
end Av
namespace Go.Proofs.YtjhnaegpchadiaaGreatDoor
open Go Go.RowKit Tw Av
def bI (c:Bs)(k:Nat):Nat:=L6 (c.take k).reverse
theorem KT {c:Bs}{k:Nat}(h:k<c.length):bI c (k+1)=bI c k*256+c[k].toNat:=by
 unfold bI;rw[List.take_succ_eq_append_getElem h,List.reverse_append,List.reverse_singleton,List.singleton_append,L6];omega
theorem KU (c:Bs)(k:Nat):bI c k<256 ^ k:=by
 have h:=zZ (c.take k).reverse;refine Nat.lt_of_lt_of_le h (Nat.pow_le_pow_right dc ?_);rw[List.length_reverse,List.length_take];omega
theorem Ym {s:Bs}(hs:s.length=32){i:Nat}(hi:i<4):bI ((s.take (8*(3-i)+8)).drop (8*(3-i))) 8=lm (jK s) i:=by
 have hc:((s.take (8*(3-i)+8)).drop (8*(3-i))).length=8:=by rw[List.length_drop,List.length_take];omega
 have e:s.reverse=(s.drop (8*(3-i)+8)).reverse++(((s.take (8*(3-i)+8)).drop (8*(3-i))).reverse++(s.take (8*(3-i))).reverse):=by
  rw[<- List.reverse_append,<- List.reverse_append];congr 1
  have h1:s.take (8*(3-i))=(s.take (8*(3-i)+8)).take (8*(3-i)):=by rw[List.take_take,Nat.min_eq_left om]
  rw[h1,List.take_append_drop,List.take_append_drop]
 have l1:(s.drop (8*(3-i)+8)).reverse.length=8*i:=by rw[List.length_reverse,List.length_drop];omega
 have h1:=zZ (s.drop (8*(3-i)+8)).reverse;have h2:=zZ ((s.take (8*(3-i)+8)).drop (8*(3-i))).reverse;have l2:((s.take (8*(3-i)+8)).drop (8*(3-i))).reverse.length=8:=by rw[List.length_reverse,hc]
 rw[l1] at h1;rw[l2] at h2;unfold lm jK bI;rw[List.take_of_length_le om,e,AA,AA,l1,l2,B_pow,Nat.add_mul_div_left _ _ (Bn _),Nat.div_eq_of_lt h1,Nat.zero_add,show (256:Nat) ^ 8=18446744073709551616 from rfl,Nat.add_mul_mod_self_left];exact(Nat.mod_eq_of_lt h2).symm
theorem Xp {X:Nat->Nat}{i:Nat}(h:i<4)(y z:Nat):(kF X (fun j=>if j=i then y else 0) i).set i (u6 z)=kF X (fun j=>if j=i then z else 0) i:=by
 rcases i with _|_|_|_|i <;> first|rfl|omega
theorem Xo {X:Nat->Nat}{i:Nat}(h:i<4):kF X (fun j=>if j=i then 0 else 0) i=kF X (fun _=>0) i:=by
 rcases i with _|_|_|_|i <;> first|rfl|omega
theorem Xr {X:Nat->Nat}{i:Nat}(h:i<4):kF X (fun j=>if j=i then X i else 0) i=kF X (fun _=>0) (i+1):=by
 rcases i with _|_|_|_|i <;> first|rfl|omega
instance a0W {s:Bs}:Ans Tryz.prog GL 307 [str s] (s.length<=1000000000) (.tup [O0 (if s.length=32 then Z6 (jK s) else wZ),int (if s.length=32 then 0 else 10)]):=⟨fun hl=>by
 refine qF Tryz.func307 Tryz.ntmps307 fun _ hs=>?_;repeat' first|refine Vz ?_|intro _
 refine o8 (fun hne=>?_) (fun hne=>?_)
 ·have h32:¬ s.length=32:=om
  repeat' first|refine Vz ?_|intro _
  refine d9 ?_;rw[if_neg h32,if_neg h32];rfl
 have h32:s.length=32:=om
 repeat' first|refine Vz ?_|intro _
 rename_i g2 g4;refine gK (g:=g4) (v':=.agg 4 (kF (lm (jK s)) (fun _=>0) 0)) (fun ok w cs h=>by rw[Xv];exact h) ?_;refine y5 (α:=Nat) (fun i=>[(0,str s),(2,ptr g2),(3,int 0),(4,ptr g4),(13,int i)])
   (fun i=>[.var g4 39 (.agg 4 (kF (lm (jK s)) (fun _=>0) i)),.var g2 39 (iL 0)]) (fun i=>i<=4) (fun i=>4-i) 0 ⟨rfl,rfl,rfl,rfl,rfl,trivial⟩ slr (Nat.zero_le _) ?_
 intro i hi;repeat' first|refine Vz ?_|intro _
 refine o8 (fun hlt=>?_) (fun hlt=>?_)
 ·have hi4:i<4:=om
  have hln:=Ct (lm (jK s)) (fun _=>0) i;repeat' first|refine Vz ?_|intro _
  refine U7 (8*(3-i)) (8*(3-i)+8) ?_;have hlm:=Ym h32 hi4;have hc:((s.take (8*(3-i)+8)).drop (8*(3-i))).length=8:=by rw[List.length_drop,List.length_take];omega
  generalize (s.take (8*(3-i)+8)).drop (8*(3-i))=c at *;have hmc:(c.map fun c=>AV.lit (o5 c)).length=8:=by rw[llm,hc]
  repeat' first|refine Vz ?_|intro _
  rw[<- Xo hi4];refine y5 (α:=Nat) (fun k=>[(0,str s),(2,ptr g2),(3,int 0),(4,ptr g4),(13,int i),(5,int i),(24,.sl 1 (c.map fun c=>.lit (o5 c)) none),(25,int ((c.map fun c=>AV.lit (o5 c)).length)),(26,int k)])
   (fun k=>[.var g4 39 (.agg 4 (kF (lm (jK s)) (fun j=>if j=i then bI c k else 0) i)),.var g2 39 (iL 0)]) (fun k=>k<=8) (fun k=>8-k) 0 ⟨rfl,rfl,rfl,rfl,rfl,rfl,rfl,rfl,rfl,trivial⟩ slr (Nat.zero_le _) ?_
  intro k hk;have hlt8:=KU c k;repeat' first|refine Vz ?_|intro _
  refine o8 (fun hlt=>?_) (fun hlt=>?_)
  ·have hk8:k<c.length:=om
   have hst:=KT hk8;have hlt9:=KU c (k+1);have hpw:256 ^ (k+1)<=18446744073709551616:=Nat.pow_le_pow_right (n:=256) (j:=8) dc om;have hby:=c[k].toNat_lt;have hln:=Ct (lm (jK s)) (fun j=>if j=i then bI c k else 0) i;have hg:=Xq (X:=lm (jK s)) (Y:=fun j=>if j=i then bI c k else 0) hi4;rw[if_pos rfl] at hg;repeat' first|refine Yz ?_|intro _
   refine O4 i ?_;repeat' first|refine Yz ?_|intro _
   refine dP hg ?_;repeat' first|refine Yz ?_|intro _
   refine O4 i ?_;refine kM (j:=i) (by rw[hln];exact hi4) ?_;rw[show AV.lit (.int .u64 ((bI c k:Int)*256+(c[k].toNat:Int)))=u6 (bI c (k+1)) by rw[hst];congr 2,Xp hi4];repeat' first|refine Yz ?_|intro _
   refine o6 (k+1) ⟨rfl,rfl,rfl,rfl,rfl,rfl,rfl,rfl,rfl,trivial⟩ ?_ om om;exact x9
  ·obtain rfl:k=8:=by omega
   rw[hlm,Xr hi4];repeat' first|refine Vz ?_|intro _
   refine o6 (i+1) ⟨rfl,rfl,rfl,rfl,rfl,trivial⟩ ?_ hi4 om;exact x9
 ·obtain rfl:i=4:=by omega
  rw[show AV.agg 4 (kF (lm (jK s)) (fun _=>0) 4)=iL (jK s) by rw[Xu]];repeat' first|refine Vz ?_|intro _
  refine d9 ?_;rw[if_pos h32,if_pos h32];show AV.tup [iL _,_]=.tup [iL _,_];rw[uD (a3S h32)]⟩
end Go.Proofs.YtjhnaegpchadiaaGreatDoor
