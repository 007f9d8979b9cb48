/- . -/
import Derived.Test.YtgcmdlboancepaaGreatDoorQ44
set_option maxHeartbeats 64000000
namespace Go.Proofs.Z
open Go Go.RowKit Tw Av Go.Proofs.Tryz
theorem WX {c:ChX}{k:Int}(h:∀ d∈c.ms,DOk d):DOk (K4 c k):=by
 unfold K4;split
 ·have h2:k.toNat<c.ms.length:=om
  rw[List.getD_eq_getElem?_getD,List.getElem?_eq_getElem h2];exact h _ (List.getElem_mem _)
 exact .nil
theorem XK {n:Int}{p:Pkt}{k:Int}:ImpC (.agg 100 [int n,str [],str [],str [],str [],str [],int 0,.agg 35 [str [],int 0,int 0,hA E9],hA E9,aT p,str [],int k,.agg 3 [int 0,int 0,J2],.agg 9 [int 0,J2,J2,.agg 3 [int 0,int 0,J2],.agg 3 [int 0,int 0,J2]]]) (x9 { Y5 with k:=n,x:=p,t:=k }):=by
 exact(inferInstance:ImpT _ (.agg 100 [int n,str [],str [],str [],str [],str [],int 0,.agg 35 [str [],int 0,int 0,hA E9],hA E9,aT p,str [],int k,.agg 3 [int 0,int 0,.sl 32 [] none],.agg 9 [int 0,.sl 2 [] none,.sl 2 [] none,.agg 3 [int 0,int 0,.sl 32 [] none],.agg 3 [int 0,int 0,.sl 32 [] none]]])).imp
theorem Nn:Imp J2 (U4 []):=(inferInstance:ImpR J2 (.sl 2 [] none)).imp
section
variable {g gs:Nat} {vm vb ve vt:Value} {c:ChX} {k:Int}
instance b8r:AnsM prog GL 80 g [int k] 154 (V7 gs vm vb ve vt c) (c.ms.length<=1000000) (U4 (K4 c k)) (V7 gs vm vb ve vt c):=⟨λhl=>by
 have hm:(c.ms.map U4).length=c.ms.length:=llm _;refine ze func80 ntmps80 λ_ hs=>?_;unfold K4;by_cases h0:k<0
 ·rw[if_neg om];repeat' first|refine Z ?_|intro
  refine U6 (U4 []) [.var g 154 (V7 gs vm vb ve vt c)] (show Imp (D8 [J2]) (U4 []) from Nn) ⟨rfl,rfl⟩ ?_;exact u7
 by_cases h1:k<(c.ms.length:Int)
 rotate_left
 ·rw[if_neg om];repeat' first|refine Z ?_|intro
  refine U6 (U4 []) [.var g 154 (V7 gs vm vb ve vt c)] (show Imp (D8 [J2]) (U4 []) from Nn) ⟨rfl,rfl⟩ ?_;exact u7
 rw[if_pos ⟨om,h1⟩];obtain⟨n,rfl⟩:∃ n:Nat,k=n:=⟨k.toNat,om⟩;have hn:n<c.ms.length:=by omega
 rw[show ((n:Int)).toNat=n from rfl,List.getD_eq_getElem?_getD,List.getElem?_eq_getElem hn];repeat' first|refine Z ?_|intro
 exact l9 [.var g 154 (V7 gs vm vb ve vt c)] ⟨rfl,rfl⟩ slr⟩
end
section
variable {ga gb gs0 gs1:Nat} {a1 a2 a3 a4 b1 b2 b3 b4:Value} {c0 c1:ChX} {i:Bs}
theorem a5Q (hk0:(c0.ms.length=c0.hs.length+1/\c0.ms.length<=1000000)/\DOk (j5 c0))(hb0:c0.bl.length<=1000000)(hm1:c1.ms.length<=1000000)(hd1:∀ d∈c1.ms,DOk d)(hv1:c1.ev.length<=1000000)(hq1:∀ v∈c1.ev,v.x.q<=9223372036854775807) :
  Av.Spec prog GL 30 [ptr ga,ptr gb,str i] [.var ga 154 (V7 gs0 a1 a2 a3 a4 c0),.var gb 154 (V7 gs1 b1 b2 b3 b4 c1)] λu m=>
   u=.sl 100 ((dQ (j5 c0) (K4 c1 (A9 (j5 c0) i)) (c0.bl.length+1) (O4 c0.bl) (A9 (j5 c0) i) (O9 c1.ev (A9 (j5 c0) i))).map x9) none /\
   m=[.var ga 154 (V7 gs0 a1 a2 a3 a4 c0),.var gb 154 (V7 gs1 b1 b2 b3 b4 c1)]:=by
 have hst:=hk0.1;have hdk:=hk0.2;have hev:(c1.ev.map Q0).length=c1.ev.length:=llm _;have hbl:(c0.bl.map oN).length=c0.bl.length:=llm _;have hdk1:=WX (k:=A9 (j5 c0) i) hd1;have hdl:=hdk1.l;refine ze func30 ntmps30 λ_ hs=>?_;repeat' first|refine Z ?_|intro
 generalize hkk:A9 (j5 c0) i=k at *;refine Y4 8 (Imp.nil (k:=100)) ?_;refine P6 (λok w h=>h.full 57 100 none 0) ?_;refine y9 (α:=Nat × Value × List TxX) (λq=>[(0,ptr ga),(1,ptr gb),(2,str i),(7,int k),(8,.sl 100 (q.2.2.map x9) (some q.2.1)),(9,int q.1)]) (λq=>.tail 57 100 q.2.1::[.var ga 154 (V7 gs0 a1 a2 a3 a4 c0),.var gb 154 (V7 gs1 b1 b2 b3 b4 c1)])
  (λq=>q.1<=c1.ev.length/\q.2.2=dQ (j5 c0) (K4 c1 k) (c0.bl.length+1) (O4 c0.bl) k (O9 (c1.ev.take q.1) k)) (λq=>c1.ev.length-q.1) (0,.slice none 0 0,[]) zc slr ⟨Nat.zero_le _,rfl⟩ ?_
 rintro⟨n,v,l⟩ ⟨hn,hG⟩;dsimp only at hn hG ⊢;by_cases hil:n<c1.ev.length
 rotate_left
 ·obtain rfl:n=c1.ev.length:=by omega
  rw[List.take_length] at hG;repeat' first|refine Z ?_|intro
  refine U6 (.sl 100 (l.map x9) none) [.var ga 154 (V7 gs0 a1 a2 a3 a4 c0),.var gb 154 (V7 gs1 b1 b2 b3 b4 c1)] (show Imp (D8 [.sl 100 (l.map x9) (some v)]) (.sl 100 (l.map x9) none) from Imp.sl) ⟨by rw[hG],rfl⟩ ?_;exact u7
 have hxq:=hq1 _ (List.getElem_mem hil);have hst2:=UA (k:=k) hil;by_cases hb:tJ k c1.ev[n]=true
 rotate_left
 ·rw[if_neg hb,List.append_nil] at hst2;by_cases h13:c1.ev[n].k=13
  ·have hk:¬ c1.ev[n].h<=k:=λh=>hb (by unfold tJ;rw[dT h13,dT h];rfl);repeat' first|refine Z ?_|intro
   exact o9 (n+1,v,l) zc (List.Sublist.cons _ (List.sublist_cons_self _ _)) ⟨hil,by dsimp only;rw[hst2];exact hG⟩ (by dsimp only;omega)
  repeat' first|refine Z ?_|intro
  exact o9 (n+1,v,l) zc (List.Sublist.cons _ (List.sublist_cons_self _ _)) ⟨hil,by dsimp only;rw[hst2];exact hG⟩ (by dsimp only;omega)
 rw[if_pos hb] at hst2;have hll:l.length<=1000000:=by
  have h1:=LC (e:=j5 c0) (d:=K4 c1 k) (h:=c0.bl.length+1) (t:=O4 c0.bl) (k:=k) (O9 (c1.ev.take n) k);have h3:=yZ (c1.ev.take n) k;rw[List.length_take] at h3;rw[hG];omega
 unfold tJ at hb;rw[bet,decide_eq_true_iff,decide_eq_true_iff] at hb;obtain⟨h13,hk⟩:=hb;have hstep:dQ (j5 c0) (K4 c1 k) (c0.bl.length+1) (O4 c0.bl) k (O9 (c1.ev.take (n+1)) k)=l++rQ (j5 c0) (K4 c1 k) (c0.bl.length+1) (O4 c0.bl) k c1.ev[n].x:=by rw[hst2,QV,hG]
 repeat' first|refine Z ?_|intro
 rw[hbl];generalize c1.ev[n].x=x at *;generalize hgb:(gO (j5 c0) (F6 [71] x.k x.q)).isSome=bg;cases bg;rotate_left
 ·repeat' first|refine Z ?_|intro
  exact o9 (n+1,v,l) zc zd ⟨hil,by dsimp only;rw[hstep,rQ,if_pos (.inl hgb),List.append_nil]⟩ (by dsimp only;omega)
 cases hl:V9 x (c0.bl.length+1) (O4 c0.bl);rotate_left
 ·repeat' first|refine Z ?_|intro
  exact o9 (n+1,v,l) zc zd ⟨hil,by dsimp only;rw[hstep,rQ,if_pos (.inr hl),List.append_nil]⟩ (by dsimp only;omega)
 repeat' (first|refine K3 ?_|refine J8 ?_|refine M9 ?_|intro _|simp only[List.set]|fail)
 refine j3 (pV (Xm ?_));refine SL ?_;refine pV ?_;repeat refine rU ?_
 refine BI ?_;repeat' (first|refine K3 ?_|refine J8 ?_|refine M9 ?_|intro _|simp only[List.set]|fail)
 rename_i gx;refine j3 (xA (g:=gx) (v':=x9 { Y5 with k:=14,x:=x,t:=k }) XK (pV ?_));obtain⟨f1,f2⟩:=Pj (k:=F6 [80] x.s x.q) hdk1.s;have hrc:rQ (j5 c0) (K4 c1 k) (c0.bl.length+1) (O4 c0.bl) k x=[xN (K4 c1 k) k x]:=by
  rw[rQ,if_neg];rintro (h|h)
  ·rw[show KT (j5 c0) x=false from hgb] at h;cases h
  rw[hl] at h;cases h
 repeat' first|refine Z ?_|intro
 rw[f1,f2];refine H7 (λv'=>?_);repeat' first|refine Z ?_|intro
 exact o9 (n+1,v',l++[xN (K4 c1 k) k x]) ⟨rfl,rfl,rfl,rfl,by rw[List.map_append];rfl,rfl,trivial⟩ zd ⟨hil,by dsimp only;rw[hstep,hrc]⟩ (by dsimp only;omega)
theorem Jl (a b:Pkt):(decide (a.q=b.q)&&(decide (a.s=b.s)&&(decide (a.k=b.k)&&((decide (a.d=b.d)&&(decide ([((lm a.a.n 0:Nat):Int),((lm a.a.n 1:Nat):Int),((lm a.a.n 2:Nat):Int),((lm a.a.n 3:Nat):Int)]=[((lm b.a.n 0:Nat):Int),((lm b.a.n 1:Nat):Int),((lm b.a.n 2:Nat):Int),((lm b.a.n 3:Nat):Int)])&&(decide (a.f=b.f)&&(decide (a.g=b.g)&&true))))&&(decide (a.h=b.h)&&(decide (a.t=b.t)&&true))))))=decide (a=b):=by
 by_cases h:a=b
 ·subst h;simp
 rw[dZ h,Bool.eq_false_iff];intro hh;simp only[Bool.and_eq_true,decide_eq_true_eq,and_true,List.cons.injEq,Int.natCast_inj] at hh;obtain⟨h1,h2,h3,⟨h4,⟨a0,a1,a2,a3⟩,h5,h6⟩,h7,h8⟩:=hh;have ha:a.a=b.a:=Wd.ext' (VZ a.a.lt b.a.lt a0 a1 a2 a3);apply h;cases a;cases b
 simp_all
def qH (c:ChX)(k:Int):Option Int:=if 1<=k/\k<=(c.bl.length:Int) then some (c.bl.getD (k-1).toNat ⟨0,0,[]⟩).t else none
theorem a5R (hk0:(c0.ms.length=c0.hs.length+1/\c0.ms.length<=1000000)/\DOk (j5 c0))(hv0:c0.ev.length<=1000000)(hq0:∀ v∈c0.ev,v.x.q<=9223372036854775807/\v.h<=(c0.hs.length:Int))(hb1:c1.bl.length<=1000000)(hm1:c1.ms.length<=1000000)(hd1:∀ d∈c1.ms,DOk d)(hv1:c1.ev.length<=1000000) :
  Av.Spec prog GL 31 [ptr ga,ptr gb,str i] [.var ga 154 (V7 gs0 a1 a2 a3 a4 c0),.var gb 154 (V7 gs1 b1 b2 b3 b4 c1)] λu m=>
   u=.sl 100 ((gM (j5 c0) (K4 c1 (A9 (j5 c0) i)) (bU c1.ev) (A9 (j5 c0) i) (qH c1 (A9 (j5 c0) i)) (O9 c0.ev c0.hs.length)).map x9) none /\
   m=[.var ga 154 (V7 gs0 a1 a2 a3 a4 c0),.var gb 154 (V7 gs1 b1 b2 b3 b4 c1)]:=by
 have hst:=hk0.1;have hdk:=hk0.2;have hev0:(c0.ev.map Q0).length=c0.ev.length:=llm _;have hev1:(c1.ev.map Q0).length=c1.ev.length:=llm _;have hbl:(c1.bl.map oN).length=c1.bl.length:=llm _;have hdk1:=WX (k:=A9 (j5 c0) i) hd1;have hdl:=hdk1.l;refine ze func31 ntmps31 λ_ hs=>?_;repeat' first|refine Z ?_|intro
 generalize hkk:A9 (j5 c0) i=k at *;refine Y4 8 (Imp.nil (k:=100)) ?_;refine P6 (λok w h=>h.full 57 100 none 0) ?_;refine y9 (α:=Nat × Value × List TxX) (λq=>[(0,ptr ga),(1,ptr gb),(2,str i),(7,int k),(8,.sl 100 (q.2.2.map x9) (some q.2.1)),(9,int q.1)]) (λq=>.tail 57 100 q.2.1::[.var ga 154 (V7 gs0 a1 a2 a3 a4 c0),.var gb 154 (V7 gs1 b1 b2 b3 b4 c1)])
  (λq=>q.1<=c0.ev.length/\q.2.2=gM (j5 c0) (K4 c1 k) (bU c1.ev) k (qH c1 k) (O9 (c0.ev.take q.1) c0.hs.length)) (λq=>c0.ev.length-q.1) (0,.slice none 0 0,[]) zc slr ⟨Nat.zero_le _,rfl⟩ ?_
 rintro⟨n,v,l⟩ ⟨hn,hG⟩;dsimp only at hn hG ⊢;by_cases hil:n<c0.ev.length
 rotate_left
 ·obtain rfl:n=c0.ev.length:=by omega
  rw[List.take_length] at hG;repeat' first|refine Z ?_|intro
  refine U6 (.sl 100 (l.map x9) none) [.var ga 154 (V7 gs0 a1 a2 a3 a4 c0),.var gb 154 (V7 gs1 b1 b2 b3 b4 c1)] (show Imp (D8 [.sl 100 (l.map x9) (some v)]) (.sl 100 (l.map x9) none) from Imp.sl) ⟨by rw[hG],rfl⟩ ?_;exact u7
 obtain⟨hxq,hxh⟩:=hq0 _ (List.getElem_mem hil);have hst2:=UA (k:=c0.hs.length) hil;by_cases h13:c0.ev[n].k=13
 rotate_left
 ·rw[if_neg (by unfold tJ;rw[dZ h13,Bool.false_and];decide),List.append_nil] at hst2;repeat' first|refine Z ?_|intro
  exact o9 (n+1,v,l) zc zd ⟨hil,by dsimp only;rw[hst2];exact hG⟩ (by dsimp only;omega)
 rw[if_pos (by unfold tJ;rw[dT h13,dT hxh];rfl)] at hst2;have hll:l.length<=1000000:=by
  have h1:=LV (e:=j5 c0) (d:=K4 c1 k) (A:=bU c1.ev) (k:=k) (o:=qH c1 k) (O9 (c0.ev.take n) c0.hs.length);have h3:=yZ (c0.ev.take n) c0.hs.length;rw[List.length_take] at h3;rw[hG];omega
 have hstep:gM (j5 c0) (K4 c1 k) (bU c1.ev) k (qH c1 k) (O9 (c0.ev.take (n+1)) c0.hs.length)=l++pO (j5 c0) (K4 c1 k) (bU c1.ev) k (qH c1 k) c0.ev[n].x:=by rw[hst2,GY,hG]
 repeat' first|refine Z ?_|intro
 rename_i gv gp;generalize hxe:c0.ev[n].x=x at *;generalize hgb:(gO (j5 c0) (F6 [80] x.s x.q)).isSome=bg;cases bg
 ·repeat' first|refine Z ?_|intro
  exact o9 (n+1,v,l) zc zd ⟨hil,by dsimp only;rw[hstep,pO,if_pos (show xS (j5 c0) x=false from hgb),List.append_nil]⟩ (by dsimp only;omega)
 have hno:¬ xS (j5 c0) x=false:=λh=>by
  rw[show xS (j5 c0) x=true from hgb] at h;cases h
 have hab:(K4 c1 k).length<=2000/\Srt (K4 c1 k):=⟨hdk1.l,hdk1.s⟩;obtain⟨f1,f2⟩:=Pj (k:=F6 [71] x.k x.q) hdk1.s;have hib:=KN (k:=F6 [71] x.k x.q) hdk1.s;repeat' first|refine Z ?_|intro
 rw[<- hib];cases hiq:K5 (K4 c1 k) (F6 [71] x.k x.q)
 ·have hnq:¬ K5 (K4 c1 k) (F6 [71] x.k x.q)=true:=by rw[hiq];decide
  rw[pO,if_neg hno,if_neg hnq] at hstep;repeat' first|refine Z ?_|intro
  by_cases h1:k<1
  ·have hlo:FU (qH c1 k) x k=false:=by rw[qH,if_neg om];rfl
   rw[if_neg (by rw[hlo];decide),List.append_nil] at hstep;repeat' first|refine Z ?_|intro
   exact o9 (n+1,v,l) zc zd ⟨hil,by dsimp only;rw[hstep]⟩ (by dsimp only;omega)
  by_cases h2:(c1.bl.length:Int)<k
  ·have hlo:FU (qH c1 k) x k=false:=by rw[qH,if_neg om];rfl
   rw[if_neg (by rw[hlo];decide),List.append_nil] at hstep;repeat' first|refine Z ?_|intro
   exact o9 (n+1,v,l) zc zd ⟨hil,by dsimp only;rw[hstep]⟩ (by dsimp only;omega)
  obtain⟨j,hj,hjl⟩:∃ j:Nat,k-1=j/\j<c1.bl.length:=⟨(k-1).toNat,om,om⟩;have hlo:FU (qH c1 k) x k=V9 x k c1.bl[j].t:=by
   rw[qH,if_pos om,hj,show ((j:Int)).toNat=j from rfl,List.getD_eq_getElem?_getD,List.getElem?_eq_getElem hjl];rfl
  rw[hlo] at hstep;repeat' first|refine Z ?_|intro
  apply zf [];exact zi
  ·intro _ _;refine Y2 j hjl ?_;exact j3 (p9 rfl rfl)
  repeat' first|refine Z ?_|intro
  cases hl:V9 x k c1.bl[j].t
  ·rw[hl,if_neg dc,List.append_nil] at hstep;repeat' first|refine Z ?_|intro
   exact o9 (n+1,v,l) zc zd ⟨hil,by dsimp only;rw[hstep]⟩ (by dsimp only;omega)
  rw[hl,if_pos rfl] at hstep;repeat' (first|refine K3 ?_|refine J8 ?_|refine M9 ?_|intro _|simp only[List.set]|fail)
  refine Br ?_;repeat refine rU ?_
  refine BI ?_;repeat' (first|refine K3 ?_|refine J8 ?_|refine M9 ?_|intro _|simp only[List.set]|fail)
  rename_i gx;refine j3 (xA (g:=gx) (v':=x9 { Y5 with k:=16,x:=x,t:=k }) XK (pV ?_));repeat' first|refine Z ?_|intro
  rw[f1,f2];refine H7 (λv'=>?_);repeat' first|refine Z ?_|intro
  exact o9 (n+1,v',l++[BL (K4 c1 k) k x]) ⟨rfl,rfl,rfl,rfl,by rw[List.map_append];rfl,rfl,trivial⟩ zd ⟨hil,by dsimp only;rw[hstep]⟩ (by dsimp only;omega)
 rw[pO,if_neg hno,if_pos hiq] at hstep;repeat' first|refine Z ?_|intro
 rename_i gx;refine dY (g:=gx) (v':=x9 { Y5 with k:=15,x:=x,t:=k }) XK ?_;refine y9 (α:=Nat) (λq=>[(0,ptr ga),(1,ptr gb),(2,str i),(7,int k),(8,.sl 100 (l.map x9) (some v)),(9,int n),(10,ptr gv),(11,ptr gp),(14,str (F6 [71] x.k x.q)),(17,ptr gx),(18,int q)]) (λq=>.var gx 57 (x9 { Y5 with k:=15,x:=x,t:=k,a:=(bU (c1.ev.take q) x).getD [] })::[.var gp 49 (aT x),.var gv 106 (Q0 c0.ev[n]),.tail 57 100 v,.var ga 154 (V7 gs0 a1 a2 a3 a4 c0),.var gb 154 (V7 gs1 b1 b2 b3 b4 c1)])
  (λq=>q<=c1.ev.length) (λq=>c1.ev.length-q) 0 zc slr (Nat.zero_le _) ?_
 intro q hqn;by_cases hql:q<c1.ev.length
 rotate_left
 ·obtain rfl:q=c1.ev.length:=by omega
  rw[List.take_length];repeat' first|refine Z ?_|intro
  rw[f1,f2];refine H7 (λv'=>?_);repeat' first|refine Z ?_|intro
  exact o9 (n+1,v',l++[SC (K4 c1 k) k x ((bU c1.ev x).getD [])]) ⟨rfl,rfl,rfl,rfl,by rw[List.map_append];rfl,rfl,trivial⟩ zd ⟨hil,by dsimp only;rw[hstep]⟩ (by dsimp only;omega)
 repeat' first|refine Z ?_|intro
 by_cases h14:c1.ev[q].k=14
 rotate_left
 ·rw[dZ h14];repeat' first|refine Z ?_|intro
  exact o9 (q+1) zc (by rw[lY hql,Vr h14];exact List.Sublist.refl _) hql om
 rw[dT h14];repeat' first|refine Z ?_|intro
 rw[Jl];have hs14:=RH (evs:=c1.ev.take q) (v:=c1.ev[q]) (p:=x);rw[<- lY hql] at hs14;by_cases hpx:c1.ev[q].x=x
 ·rw[dT hpx];rw[if_pos ⟨h14,hpx⟩] at hs14;repeat' first|refine Z ?_|intro
  exact o9 (q+1) zc (by rw[hs14];exact List.Sublist.refl _) hql om
 rw[dZ hpx];rw[if_neg (λh=>hpx h.2)] at hs14;repeat' first|refine Z ?_|intro
 exact o9 (q+1) zc (by rw[hs14];exact List.Sublist.refl _) hql om
end
end Go.Proofs.Z

namespace Go.Proofs.Z
open Go Go.RowKit Tw Av
section
variable {d:List Ent}{k:Bs}{b:Bool}
structure RepB (r:Rep):Prop where
 q:0<=r.q/\r.q<=1099511627776
 a:r.a.length<=400000000
theorem a1B (e:Int):RepB (xK e):=⟨by show (0:Int)<=0/\(0:Int)<=_;decide,Nat.zero_le _⟩
theorem OD:RepB oJ:=⟨dc,dc⟩
theorem iJ {e:Int}:RepB (O6 d e).2:=a1B e
theorem JA {r:List Ent × Int}{p:Rep}(h:RepB p):RepB (iO d r p).2:=by
 unfold iO;split
 ·exact h
 exact iJ
theorem JV {v:Bs}:RepB (rC d k v).2:=JA OD
theorem Vd {x:TxX}{i:Bs}{t:Int}:RepB (GU d x i k b t).2:=by
 unfold GU;repeat' (first|exact iJ|exact JV|split)
theorem Mr {x:TxX}{own:EndX}{i:Bs}{t:Int}:RepB (FW d x own i k b t).2:=by
 cases b
 ·rw[Mo];unfold FX;repeat' (first|exact iJ|exact JV|split)
 rw[Mm];unfold FX;repeat' (first|exact iJ|exact JV|split)
theorem Qz {x:Pkt}{e:Int}:RepB (vR d x b e).2:=by
 unfold vR;split
 ·exact iJ
 split
 ·exact iJ
 split
 ·exact iJ
 split
 ·exact iJ
 exact OD
theorem a1x {c m:Int}{s:Bs}:0<=L9 c m s b:=by
 unfold L9;split <;> omega
theorem a2X (d:List Ent)(i:Bs):0<=V8 d i/\V8 d i<=1099511627776:=by
 unfold V8;split
 ·rename_i h;unfold zW;rw[if_pos h];exact⟨a1x,Gj dc⟩
 decide
theorem b0B (d:List Ent)(x:Pkt):(xB d x).length<=400000000:=by
 unfold xB;split
 ·show 1<=400000000;decide
 show 2<=400000000;decide
theorem a7e (d:List Ent)(x:TxX)(h t:Int):RepB (H9 d x h t).2:=by
 unfold H9;split
 ·unfold AF;split <;> first|exact iJ|exact JA OD
 split
 ·unfold zS;split <;> first|exact iJ|exact JA OD
 split
 ·unfold pI;repeat' (first|exact iJ|exact JV|split)
 split
 ·unfold qG;repeat' (first|exact iJ|exact JV|split)
 split
 ·unfold AX;repeat' (first|exact iJ|exact Vd|split)
 split
 ·unfold AY;repeat' (first|exact iJ|exact Mr|split)
 split
 ·unfold zO;repeat' (first|exact iJ|exact Vd|split)
 split
 ·unfold zP;repeat' (first|exact iJ|exact Mr|split)
 split
 ·unfold qJ;have hn:=a2X d x.x.s;have hg:RepB ⟨0,(goes d x.x).q,[]⟩:=⟨hn,Nat.zero_le _⟩;repeat' (first|exact iJ|exact JA hg|split)
 split
 ·unfold qW;have hg:RepB ⟨0,0,xB d x.x⟩:=⟨by show (0:Int)<=0/\(0:Int)<=_;decide,b0B _ _⟩;repeat' (first|exact iJ|exact JA hg|split)
 split
 ·unfold uN;repeat' (first|exact iJ|exact Qz|split)
 split
 ·unfold tH;repeat' (first|exact iJ|exact Qz|split)
 exact iJ
theorem a3V (d:List Ent)(i:Bs):0<=(dK (U9 d i).l).h/\(dK (U9 d i).l).h<=1099511627776:=by
 unfold U9;rcases Ij (N8 d (I9 [67] i)) with h|h
 ·obtain⟨⟨h1,h2,h3,h4,h5⟩,h6⟩:=LZ.1 h;have hne:(oK (N8 d (I9 [67] i))).l≠[]:=λe=>by rw[e] at h4;simp at h4
  obtain⟨_,_,c3,c4,_,_⟩:=LH.1 (PO h _ (Lx hne));exact⟨by simp only[bN] at c3;omega,c4⟩
 rw[h];decide
end

section
variable {h:Int}{d:List Ent}
structure PkG (p:Pkt):Prop where
 q:0<=p.q/\p.q<=1099511627776
 h:0<=p.h/\p.h<=1099511627776
 t:0<=p.t/\p.t<=1099511627776
 s:p.s.length<=4000
 k:p.k.length<=4000
 d:p.d.length<=4000
 f:p.f.length<=4000
 g:p.g.length<=4000
theorem PkG.n {p:Pkt}(h:PkG p):PkN p:=
 ⟨by have:=h.q;omega,by have:=h.h;omega,by have:=h.t;omega,by have:=h.s;omega,by have:=h.k;omega,by have:=h.d;omega,by have:=h.f;omega,by have:=h.g;omega⟩
theorem Zd (σ:RS):PkG (EH σ).x:=by
 have ht:∀ (c:Int) (τ:RS),(gT c 4000 τ).length<=4000:=λc τ=>by
  have:=Ol (c:=c) (m:=4000) (σ:=τ) dc;omega
 have hi:∀ (c:Int) (τ:RS),0<=gI c 1099511627776 τ/\gI c 1099511627776 τ<=1099511627776:=λc τ=>XT dc;exact⟨hi _ _,hi _ _,hi _ _,ht _ _,ht _ _,ht _ _,ht _ _,ht _ _⟩
theorem a1l (σ:RS):PkG (K6 σ).x:=by
 unfold K6;split
 ·exact Zd σ
 exact⟨dc,dc,dc,dc,dc,dc,dc,dc⟩
theorem a6L {x:TxX}{r:Rep}(hx:PkG x.x)(hr:RepB r):PkG (pE d h x r).x:=by
 unfold pE;dsimp only;split
 ·have hl:=(QN d [72] x.x.s).2.2.1;exact⟨hr.q,hx.h,hx.t,hx.s,by dsimp only;omega,hx.d,hx.f,hx.g⟩
 exact hx
structure EvG (v:EvX):Prop where
 x:PkG v.x
 k:13<=v.k/\v.k<=16
theorem a1m (σ:RS):(K6 σ).k<=16:=by
 unfold K6;split
 ·exact(XT dc).2
 decide
theorem a1g {t:Int}{q:Run3}{s:Bs}(hq:∀ v∈q.2.2,EvG v):∀ v∈(iC h t q s).2.2,EvG v:=by
 unfold iC zD;split
 ·dsimp only;split
  ·rename_i h1;intro v hv;rcases List.mem_append.1 hv with hv|hv
   ·exact hq v hv
   rw[List.mem_singleton.1 hv];exact⟨a6L (a1l _) (a7e _ _ _ _),h1.2,a1m _⟩
  exact hq
 exact hq
theorem Fh {h t:Int}:∀ {l:List Bs} {q:Run3},(∀ v∈q.2.2,EvG v)->∀ v∈(V6 h t q l).2.2,EvG v
 | [],_,hq=>hq
 | s::l,q,hq=>by
  rw[NU];exact Fh (a1g hq)
theorem a1i {b:BlkX}:∀ v∈(M7 d b).2.2,EvG v:=Fh sm
theorem a2R {nm ky:Bs}{bs:List BlkX}:∀ v∈(opC nm ky d bs).ev,EvG v:=by
 have key:∀ (l:List BlkX) (c:ChX),(∀ v∈c.ev,EvG v)->∀ v∈(l.foldl dN c).ev,EvG v:=by
  intro l
  induction l with
  | nil=>exact λ_ h=>h
  | cons b l ih=>
   intro c h;refine ih (dN c b) ?_;intro v hv;rcases List.mem_append.1 (show v∈c.ev++(M7 (j5 c) b).2.2 from hv) with hv|hv
   ·exact h v hv
   exact a1i v hv
 exact key bs _ (λv hv=>by cases hv)
theorem a1f {t:Int}{q:Run3}{s:Bs}(hq:∀ v∈q.2.2,v.h=h):∀ v∈(iC h t q s).2.2,v.h=h:=by
 unfold iC zD;split
 ·dsimp only;split
  ·intro v hv;rcases List.mem_append.1 hv with hv|hv
   ·exact hq v hv
   rw[List.mem_singleton.1 hv];rfl
  exact hq
 exact hq
theorem Fg {h t:Int}:∀ {l:List Bs} {q:Run3},(∀ v∈q.2.2,v.h=h)->∀ v∈(V6 h t q l).2.2,v.h=h
 | [],_,hq=>hq
 | s::l,q,hq=>by
  rw[NU];exact Fg (a1f hq)
theorem a2Q {nm ky:Bs}{bs:List BlkX}(hb:BsG bs):∀ v∈(opC nm ky d bs).ev,1<=v.h/\v.h<=(bs.length:Int):=by
 have key:∀ (l:List BlkX) (c:ChX),∀ v∈(l.foldl dN c).ev,v∈c.ev\/∃ b∈l,v.h=b.h:=by
  intro l
  induction l with
  | nil=>exact λ_ v hv=>.inl hv
  | cons b l ih=>
   intro c v hv;rcases ih (dN c b) v hv with h|⟨b',hb',h⟩
   ·rcases List.mem_append.1 (show v∈c.ev++(M7 (j5 c) b).2.2 from h) with h|h
    ·exact .inl h
    exact .inr ⟨b,List.mem_cons_self,Fg (q:=(j5 c,[],[])) sm v h⟩
   exact .inr ⟨b',List.mem_cons_of_mem _ hb',h⟩
 intro v hv;rcases key bs _ v hv with h|⟨b,hm,h⟩
 ·cases h
 obtain⟨i,hi,rfl⟩:=List.mem_iff_getElem.1 hm;have:=(hb.h i hi).1;rw[h,this];omega
end

attribute [local irreducible] F8 Q5
end Go.Proofs.Z



namespace Go.Proofs.Z
open Go Go.RowKit Tw Av Go.Proofs.Tryz
section
variable {nm ky:Bs} {d:List Ent} {bs:List BlkX} {ws:List Bs} {x:DvX}
theorem a6b {I:DvI}{gen:List Ent}{xs:List AV}{id:Option Value}(hxs:xs=gen.map D5)(hn:1<=nm.length/\nm.length<=32/\ky.length<=64)(h:Ro x bs)(hg:gen.length<=1000)(hd:DOk (dO gen))(he:dO gen=d) :
  Av.Spec prog GL 22 [ptr I.gd,str nm,str ky,.sl 2 xs id] (I1 I x) λu m=>∃ J:ChI,J.gd=I.gd/\J.gm=I.gm/\u=.tup [ptr J.gc,int 0]/\m=gK J x (F3 bs) (y8 nm ky d bs [] false):=by
 subst he;obtain⟨h0,h1,h2⟩:=Gc h;have:=a6l (I:=I) (id:=id) hxs hn h.dv (by rw[h.ws];decide) h0 h2 h.bg hg hd;rw[h1,<- ZU hd h.bg] at this;exact this
theorem a3M {t:Int}(h:∀ s∈ws,s.length<=1000):(aV (bs++[O5 bs ws t])).length<=(aV bs).length+1004*ws.length+44:=by
 rw[KI,lla];have h1:=a1I (M5 (O5 bs ws t));have h2:=Ux (O5 bs ws t);have h3:=TR h;have h4:(O5 bs ws t).x=ws:=rfl;rw[h4] at h2;omega
theorem a7R {dd:Bool}(hd:DOk d)(hb:BsG bs):(y8 nm ky d bs ws dd).hs.length=bs.length:=(vJ (nm:=nm) (ky:=ky) hd hb).hs
end
end Go.Proofs.Z

namespace Go.Proofs.Z
open Go Go.RowKit Tw Av
section
variable {nm ky:Bs} {d:List Ent} {bs:List BlkX}
theorem Nv (hb:BsG bs):∀ y∈(opC nm ky d bs).hs,y.h<=9223372036854775807/\y.t<=9223372036854775807:=by
 have key:∀ l:List BlkX,(∀ b∈l,BkG b)->∀ c:ChX,(∀ y∈c.hs,y.h<=9223372036854775807/\y.t<=9223372036854775807)->∀ y∈(l.foldl dN c).hs,y.h<=9223372036854775807/\y.t<=9223372036854775807:=by
  intro l
  induction l with
  | nil=>exact λ_ c h=>h
  | cons b l ih=>
   intro hl c h;rw[List.foldl_cons];refine ih (λx hx=>hl x (by simp[hx])) _ ?_;intro y hy;rcases List.mem_append.1 (show y∈c.hs++[KR c b] from hy) with hy|hy
   ·exact h y hy
   obtain rfl:=List.mem_singleton.1 hy;have g:=hl b sm;have g1:=g.h;have g2:=g.t;show b.h<=9223372036854775807/\b.t<=9223372036854775807;omega
 exact key bs (λb h=>(hb.g b h).1) _ (by simp[KO])
end

abbrev ZI (gd gm gs gc:Nat)(v:Value × Value × Value × Value × Value)(x:DvX)(s:SlX)(c:ChX):List Av.Piece:=gK ⟨⟨⟨gd,gm,v.1⟩,gs⟩,gc,v.2.1,v.2.2.1,v.2.2.2.1,v.2.2.2.2⟩ x s c

abbrev V5:=Value × Value × Value × Value × Value
end Go.Proofs.Z

namespace Go.Proofs.Z
open Go Go.RowKit Tw Av Go.Proofs.Tryz
section
variable {nm ky:Bs} {d:List Ent} {bs:List BlkX} {ws:List Bs} {x:DvX}
theorem ZT {dd:Bool}(hd:DOk d)(hb:BsG bs):R20Ok (y8 nm ky d bs ws dd):=by
 have h:=a2N (vJ (nm:=nm) (ky:=ky) hd hb) OY (by have:=hb.l;omega);exact⟨h.bl,h.ms,h.tm,h.ml⟩
theorem Tg {dd:Bool}:(y8 nm ky d bs ws dd).bl=bs:=OY
theorem a5J {I:R6I}{gen:List Ent}{xs:List AV}{id:Option Value}(hxs:xs=gen.map D5)(hn:1<=nm.length/\nm.length<=32/\ky.length<=64)(h:Ro x bs)(hg:gen.length<=1000)(hd:DOk (dO gen))(he:dO gen=d) :
  Av.Spec prog GL 25 [ptr I.gd,str nm,str ky,.sl 2 xs id] (O0 I x) λu m=>∃ J:R20I,J.gd=I.gd/\J.gs=I.gs/\J.c=I.c/\u=.tup [ptr J.gc,int 0]/\m=eX J x (F3 bs) (y8 nm ky d bs [] false):=by
 subst he;obtain⟨h0,h1,h2⟩:=Gc h;have hr:X9 x (J3 x).b=M4 (bs.map M5):=congrArg SlX.l h1;have:=a5T (I:=I) (id:=id) hxs hn h.dv (by rw[h.ws];decide) h0 hr h.bg hg hd;rw[h1,<- ZU hd h.bg] at this;exact this
theorem a5L {I:R20I}{t:Int}(hd:DOk d)(h:Ro x bs)(hl:bs.length<189)(hw:WsG ws) :
  Av.Spec prog GL 41 [ptr I.gc,int t] (eX I x (F3 bs) (y8 nm ky d bs ws false)) λu m=>u=.tup [.sl 3 ((AR x (F3 bs) (y8 nm ky d bs ws false) t).map P5) none,int (Q3 x (F3 bs) (y8 nm ky d bs ws false) t).2.2]/\∃ v vm vb ve vt,m=eX { I with vw:=v,vm:=vm,vb:=vb,ve:=ve,vt:=vt } (Q3 x (F3 bs) (y8 nm ky d bs ws false) t).1 (Q3 x (F3 bs) (y8 nm ky d bs ws false) t).2.1 (AU x (F3 bs) (y8 nm ky d bs ws false) t):=
 a5U (Tf hd h om hw) (ZT hd h.bg) (by intro w hw;rw[h.ws] at hw;cases hw) rfl rfl
theorem a6a {I:ChI}{t:Int}(hd:DOk d)(h:Ro x bs)(hl:bs.length<189)(hw:WsG ws) :
  Av.Spec prog GL 20 [ptr I.gc,int t] (gK I x (F3 bs) (y8 nm ky d bs ws false)) λu m=>u=.tup [.sl 3 ((AR x (F3 bs) (y8 nm ky d bs ws false) t).map P5) none,int (Q3 x (F3 bs) (y8 nm ky d bs ws false) t).2.2]/\∃ v vm vh ve vt,m=gK { I with vw:=v,vm:=vm,vh:=vh,ve:=ve,vt:=vt } (Q3 x (F3 bs) (y8 nm ky d bs ws false) t).1 (Q3 x (F3 bs) (y8 nm ky d bs ws false) t).2.1 (AU x (F3 bs) (y8 nm ky d bs ws false) t):=
 a6m (Tf hd h om hw) rfl
theorem Nw (hd:DOk d)(hb:BsG bs){z:Hdr}:∀ i,i<=bs.length->∀ k (hk:k<bs.length),k<i->(opC nm ky d (bs.take i)).hs.getD k z=⟨nm,(k:Int)+1,bs[k].t,uY ((opC nm ky d (bs.take i)).ms.getD (k+1) [])⟩
 | 0,_,k,_,h=>absurd h om
 | i+1,hi,k,hk,h=>by
  have hI:=FD (nm:=nm) (ky:=ky) hd hb i om;have h1:=hI.hs;have h2:=hI.ms;rw[List.length_take,Nat.min_eq_left om] at h1 h2;have hn:=hI.nm;have ih:=Nw hd hb (z:=z) i om k hk;rw[OX (show i<bs.length by omega)];obtain⟨c,hc⟩:∃ c,opC nm ky d (bs.take i)=c:=⟨_,rfl⟩;rw[hc] at h1 h2 hn ih ⊢;clear hI;show (c.hs++[KR c bs[i]]).getD k z=⟨nm,(k:Int)+1,bs[k].t,uY ((c.ms++[(M7 (j5 c) bs[i]).1]).getD (k+1) [])⟩;by_cases hk':k<i
  ·rw[List.getD_eq_getElem?_getD,List.getElem?_append_left om,<- List.getD_eq_getElem?_getD,ih hk',List.getD_eq_getElem?_getD (l:=c.ms++_),List.getElem?_append_left om,<- List.getD_eq_getElem?_getD]
  obtain rfl:k=i:=by omega
  rw[List.getD_eq_getElem?_getD,List.getElem?_append_right om,h1,Nat.sub_self,List.getD_eq_getElem?_getD (l:=c.ms++_),List.getElem?_append_right om,h2,Nat.sub_self];have:=(hb.h k hk).1;show (⟨c.nm,bs[k].h,bs[k].t,_⟩:Hdr)=_;rw[hn,this];rfl
theorem a3b (hd:DOk d):∀ y∈(opC nm ky d bs).ms,DOk y:=by
 have key:∀ (l:List BlkX) (c:ChX),(∀ y∈c.ms,DOk y)->∀ y∈(l.foldl dN c).ms,DOk y:=by
  intro l
  induction l with
  | nil=>exact λ_ h=>h
  | cons b l ih=>
   intro c h;refine ih (dN c b) ?_;intro y hy;rcases List.mem_append.1 (show y∈c.ms++[(M7 (j5 c) b).1] from hy) with hy|hy
   ·exact h y hy
   rw[List.mem_singleton.1 hy];refine NS ?_;unfold j5;rw[List.getD_eq_getElem?_getD];cases e:c.ms[c.hs.length]? with
   | none=>exact .nil
   | some z=>exact h z (List.mem_of_getElem? e)
 exact key bs _ (λy hy=>by rw[List.mem_singleton.1 (show y∈[d] from hy)];exact hd)
theorem Nu (hd:DOk d)(hb:BsG bs){z:Hdr}{dd:Bool}{k:Nat}(hk:k<bs.length):(y8 nm ky d bs ws dd).hs.getD k z=⟨nm,(k:Int)+1,bs[k].t,uY ((y8 nm ky d bs ws dd).ms.getD (k+1) [])⟩:=by
 have h:=Nw (nm:=nm) (ky:=ky) hd hb (z:=z) bs.length (Nat.le_refl _) k hk hk;rw[List.take_length] at h;exact h
end
abbrev NV (gd gs cc gl gc:Nat)(v:V5)(x:DvX)(s:SlX)(c:ChX):List Av.Piece:=eX ⟨⟨⟨gd,gs,cc,v.1⟩,gl⟩,gc,v.2.1,v.2.2.1,v.2.2.2.1,v.2.2.2.2⟩ x s c

abbrev TxP (x:TxX):Prop:=x.f.p.length<=1073741823/\x.g.a.p.length<=1073741823/\x.g.b.p.length<=1073741823
instance b9o {xs ys:List AV}{i m:Int}{p:List Hsh}[hx:Hshs xs p][hy:Hshs ys p]:Ans prog GL 90 [.agg 3 [int i,int m,.sl 32 xs none],.agg 3 [int i,int m,.sl 32 ys none]] (p.length<=1073741823) (d9 true):=⟨λhl=>by
 have h:=(a5Y (xs:=xs) (ys:=ys) (id:=none) (id2:=none) (i:=i) (m:=m) (i2:=i) (m2:=m) (p:=p) (q:=p)).spec hl;simpa using h⟩
instance b8D {x:TxX}:Ans prog GL 36 [x9 x,x9 x] (TxP x) (d9 true):=⟨λhp=>by
 obtain⟨h1,h2,h3⟩:=hp;refine ze func36 ntmps36 λ_ hs=>?_;exact J7⟩
end Go.Proofs.Z

namespace Go.Proofs.Z
open Go Go.RowKit Tw Av
section
variable {d:List Ent}{k:Int}{x:TxX}
structure CG (c:ChX):Prop where
 k:(c.hs.length<c.ms.length/\c.ms.length<=1000000)/\DOk (j5 c)
 r:(c.ms.length=c.hs.length+1/\c.ms.length<=1000000)/\DOk (j5 c)
 q:(c.hs.length<=1000000/\c.ky.length<=1000000)/\∀ y∈c.hs,y.h<=9223372036854775807/\y.t<=9223372036854775807
 m:∀ d∈c.ms,DOk d
 v:c.ev.length<=1000000
 g:∀ v∈c.ev,EvG v
 h:∀ v∈c.ev,v.h<=(c.hs.length:Int)
 b:c.bl.length=c.hs.length
 t:X7 c=O4 c.bl
 tk:∀ k,qI c k=qH c k
 tm:0<=O4 c.bl/\O4 c.bl<=1099511627776
 top:yV c=bG c
 tb:(bG c).h<=1000/\1<=(bG c).h/\(bG c).t=O4 c.bl
theorem ZV {nm ky:Bs}{bs:List BlkX}{ws:List Bs}(hd:DOk d)(hb:BsG bs)(h1:1<=bs.length)(hk:ky.length<=1000000):CG (y8 nm ky d bs ws false):=by
 have o:=vJ (nm:=nm) (ky:=ky) hd hb;have o1:(y8 nm ky d bs ws false).hs.length=bs.length:=o.hs;have o2:(y8 nm ky d bs ws false).ms.length=bs.length+1:=o.ms;have o3:(y8 nm ky d bs ws false).ky=ky:=o.ky;have o4:(y8 nm ky d bs ws false).bl=bs:=o.bl;have o5:X7 (y8 nm ky d bs ws false)=O4 bs:=o.tm;have o6:(y8 nm ky d bs ws false).nm=nm:=o.nm;have o7:(y8 nm ky d bs ws false).ev.length<=16*bs.length:=o.ev;have hl:=hb.l;have hst:DOk (j5 (y8 nm ky d bs ws false)):=o.st;have hE:∀ v∈(y8 nm ky d bs ws false).ev,v.h<=(bs.length:Int):=λv hv=>(a2Q hb v hv).2;refine⟨⟨⟨om,om⟩,hst⟩,⟨⟨om,om⟩,hst⟩,⟨⟨om,by rw[o3];exact hk⟩,Nv hb⟩,λy hy=>a3b hd y hy,om,λv hv=>a2R v hv,by rw[o1];exact hE,by rw[o4,o1],by rw[o4,o5],λk=>?_,by rw[o4];exact TJ hb,?_,?_⟩
 ·unfold qI qH;rw[o1,o4];by_cases hk:1<=k/\k<=(bs.length:Int)
  ·rw[if_pos hk,if_pos hk];obtain⟨j,hj⟩:∃ j:Nat,(k-1).toNat=j:=⟨_,rfl⟩;have hjl:j<bs.length:=by omega
   rw[hj,Nu hd hb hjl,List.getD_eq_getElem?_getD (l:=bs),List.getElem?_eq_getElem hjl];rfl
  rw[if_neg hk,if_neg hk]
 ·unfold yV bG;rw[o1,o4,o6,Nu hd hb (show bs.length-1<bs.length by omega)];have e1:((bs.length-1:Nat):Int)+1=bs.length:=by omega
  have e2:bs.length-1+1=bs.length:=om
  have e3:O4 bs=bs[bs.length-1].t:=by
   unfold O4;rw[List.getLast?_eq_getElem?,List.getElem?_eq_getElem (show bs.length-1<bs.length by omega)];rfl
  rw[e1,e2,e3];have e4:j5 (y8 nm ky d bs ws false)=(y8 nm ky d bs ws false).ms.getD bs.length []:=by
   unfold j5;rw[o1]
  rw[e4]
 unfold bG;rw[o4];dsimp only;exact⟨om,om,rfl⟩
def oO (c0 c1:ChX)(i:Bs):List TxX:=dQ (j5 c0) (K4 c1 (A9 (j5 c0) i)) (c0.hs.length+1) (X7 c0) (A9 (j5 c0) i) (O9 c1.ev (A9 (j5 c0) i))++gM (j5 c0) (K4 c1 (A9 (j5 c0) i)) (bU c1.ev) (A9 (j5 c0) i) (qI c1 (A9 (j5 c0) i)) (O9 c0.ev c0.hs.length)
theorem Dx {evs:List EvX}{p:Pkt}(h:p∈O9 evs k):∃ v∈evs,v.k=13/\v.h<=k/\v.x=p:=by
 unfold O9 at h;obtain⟨v,hv,rfl⟩:=List.mem_map.1 h;obtain⟨h1,h2⟩:=List.mem_filter.1 hv;unfold tJ at h2;rw[bet,decide_eq_true_iff,decide_eq_true_iff] at h2;exact⟨v,h1,h2.1,h2.2,rfl⟩
theorem Sm {e:List Ent}{h t:Int}{ps:List Pkt}(hx:x∈dQ e d h t k ps):∃ p∈ps,KT e p=false/\V9 p h t=false/\x=xN d k p:=by
 unfold dQ at hx;obtain⟨p,hp,h1⟩:=List.mem_flatMap.1 hx;unfold rQ at h1;split at h1
 ·cases h1
 rename_i hn;refine⟨p,hp,?_,?_,List.mem_singleton.1 h1⟩
 ·cases hg:KT e p
  ·rfl
  exact absurd (.inl hg) hn
 cases hg:V9 p h t
 ·rfl
 exact absurd (.inr hg) hn
theorem Vj {e:List Ent}{A:Pkt->Option Bs}{o:Option Int}{ps:List Pkt}(hx:x∈gM e d A k o ps):∃ p∈ps,xS e p=true/\((K5 d (F6 [71] p.k p.q)=true/\x=SC d k p ((A p).getD []))\/(K5 d (F6 [71] p.k p.q)=false/\FU o p k=true/\x=BL d k p)):=by
 unfold gM at hx;obtain⟨p,hp,h1⟩:=List.mem_flatMap.1 hx;unfold pO at h1;split at h1
 ·cases h1
 rename_i hn;refine⟨p,hp,by cases ho:xS e p;exact absurd ho hn;rfl,?_⟩;split at h1
 ·rename_i hi;exact .inl ⟨hi,List.mem_singleton.1 h1⟩
 rename_i hi;split at h1
 ·rename_i hl;exact .inr ⟨by simpa using hi,hl,List.mem_singleton.1 h1⟩
 cases h1
theorem Ao {i:Int}:(yM d i).p.length<=d.length:=by
 show (iE (d.map U3) i).length<=_;rw[Jq,llm];exact Ch _ _
theorem a3A {i:Nat}{b:Bool}:(iV d i b).p.length<=d.length/\((iV d i b).a<=(i:Int))/\(iV d i b).m<=(d.length:Int):=by
 unfold iV;split
 ·exact⟨Ao,Int.le_refl _,Int.le_refl _⟩
 exact⟨Nat.zero_le _,by show (0:Int)<=_;omega,by show (0:Int)<=_;omega⟩
theorem Un (d:List Ent)(k:Bs)(h:Srt d):G6 d k<=d.length:=by
 obtain⟨A,B,hA,hB,hl,h1⟩:=vU k h;rcases h1 with⟨h1,rfl⟩|⟨v,h1,rfl⟩
 ·rw[lla];omega
 rw[lla];omega
theorem b0H {i:Nat}{b:Bool}(hd:d.length<=2000)(hi:i<=d.length):GapW (rV d i b)/\(rV d i b).a.p.length<=2000/\(rV d i b).b.p.length<=2000:=by
 have h1:=Ao (d:=d) (i:=((i-1:Nat):Int));have h2:=Ao (d:=d) (i:=i);unfold rV;split
 ·exact⟨⟨⟨dc,dc,dc,dc⟩,⟨dc,dc,dc,dc⟩,dc⟩,dc,dc⟩
 refine⟨⟨⟨?_,?_,?_,?_⟩,⟨?_,?_,?_,?_⟩,by show (d.length:Int)<=_;omega⟩,?_,?_⟩ <;> dsimp only <;> split <;> first|decide|omega|(show ((i-1:Nat):Int)<=_;omega)|(show (d.length:Int)<=_;omega)|(show (i:Int)<=_;omega)|(show 1<=1000000;decide)
theorem Mg (d:List Ent)(i:Bs):0<=A9 d i/\A9 d i<=1099511627776:=by
 unfold A9;split
 ·exact a3V d i
 decide
structure TxZ (x:TxX):Prop where
 w:TxW x
 p:TxP x
 k:x.k=3\/x.k=4\/x.k=13\/x.k=14\/x.k=15\/x.k=16
theorem SQ:eD.p.length<=1000000/\eD.a<=9223372036854775807/\eD.m<=9223372036854775807:=⟨dc,dc,dc⟩
theorem MK:GapW pX:=⟨⟨dc,dc,dc,dc⟩,⟨dc,dc,dc,dc⟩,dc⟩
theorem Jj {c0 c1:ChX}(h0:CG c0)(h1:CG c1){i:Bs}:∀ x∈oO c0 c1 i,TxZ x/\x.t=A9 (j5 c0) i/\(x.k=14\/x.k=15\/x.k=16):=by
 have hk:=Mg (j5 c0) i;have hd:=WX (k:=A9 (j5 c0) i) h1.m;have hdl:=hd.l;have z:(0:Int)<=9223372036854775807:=by decide
 have hM:∀ key:Bs,(iV (K4 c1 (A9 (j5 c0) i)) (G6 (K4 c1 (A9 (j5 c0) i)) key) (K5 (K4 c1 (A9 (j5 c0) i)) key)).p.length<=2000/\(iV (K4 c1 (A9 (j5 c0) i)) (G6 (K4 c1 (A9 (j5 c0) i)) key) (K5 (K4 c1 (A9 (j5 c0) i)) key)).a<=9223372036854775807/\(iV (K4 c1 (A9 (j5 c0) i)) (G6 (K4 c1 (A9 (j5 c0) i)) key) (K5 (K4 c1 (A9 (j5 c0) i)) key)).m<=9223372036854775807:=λkey=>by
  have q:=a3A (d:=K4 c1 (A9 (j5 c0) i)) (i:=G6 (K4 c1 (A9 (j5 c0) i)) key) (b:=K5 (K4 c1 (A9 (j5 c0) i)) key);have q2:=Un _ key hd.s;omega
 have hP:∀ {c:ChX} {k:Int} {p:Pkt},CG c->p∈O9 c.ev k->p.q<=9223372036854775807/\p.h<=9223372036854775807/\p.t<=9223372036854775807:=λhc hp=>by
  obtain⟨v,hv,_,_,rfl⟩:=Dx hp;have g:=(hc.g v hv).x;have:=g.q;have:=g.h;have:=g.t;omega
 intro x hx;rcases List.mem_append.1 hx with hx|hx
 ·obtain⟨p,hp,_,_,rfl⟩:=Sm hx;obtain⟨q1,q2,q3⟩:=hP h1 hp;obtain⟨m1,m2,m3⟩:=hM (F6 [80] p.s p.q);exact⟨⟨⟨by show (14:Int)<=_;decide,z,z,z,q1,q2,q3,by show A9 (j5 c0) i<=_;omega,⟨by show (iV _ _ _).p.length<=_;omega,m2,m3⟩,MK⟩,⟨by show (iV _ _ _).p.length<=_;omega,Nat.zero_le _,Nat.zero_le _⟩,.inr (.inr (.inr (.inl rfl)))⟩,rfl,.inl rfl⟩
 obtain⟨p,hp,_,h⟩:=Vj hx;obtain⟨q1,q2,q3⟩:=hP h0 hp;rcases h with⟨_,rfl⟩|⟨_,_,rfl⟩
 ·obtain⟨m1,m2,m3⟩:=hM (F6 [71] p.k p.q);exact⟨⟨⟨by show (15:Int)<=_;decide,z,z,z,q1,q2,q3,by show A9 (j5 c0) i<=_;omega,⟨by show (iV _ _ _).p.length<=_;omega,m2,m3⟩,MK⟩,⟨by show (iV _ _ _).p.length<=_;omega,Nat.zero_le _,Nat.zero_le _⟩,.inr (.inr (.inr (.inr (.inl rfl))))⟩,rfl,.inr (.inl rfl)⟩
 obtain⟨g1,g2,g3⟩:=b0H (d:=K4 c1 (A9 (j5 c0) i)) (i:=G6 (K4 c1 (A9 (j5 c0) i)) (F6 [71] p.k p.q)) (b:=K5 (K4 c1 (A9 (j5 c0) i)) (F6 [71] p.k p.q)) hdl (Un _ _ hd.s);exact⟨⟨⟨by show (16:Int)<=_;decide,z,z,z,q1,q2,q3,by show A9 (j5 c0) i<=_;omega,SQ,g1⟩,⟨Nat.zero_le _,by show (rV _ _ _).a.p.length<=_;omega,by show (rV _ _ _).b.p.length<=_;omega⟩,.inr (.inr (.inr (.inr (.inr rfl))))⟩,rfl,.inr (.inr rfl)⟩
theorem Fs (h:0<=x.k/\x.k<=16)(he:aG (I6 (F8 x))=0):(K6 (I6 (F8 x))).k=x.k:=by
 have e0:(I6 (F8 x)).1=(F8 x,false):=by
  unfold I6;rw[dif_pos (Zg x)]
 generalize I6 (F8 x)=σ at *;have hB:∃ r,F8 x=D7 75 x.k++r:=by
  unfold F8;simp only[List.append_assoc];exact⟨_,rfl⟩
 obtain⟨r,hr⟩:=hB;rw[hr] at e0;unfold aG at he;by_cases hok:uP σ=true
 ·unfold K6;rw[if_pos hok];show L9 75 16 σ.1.1 σ.1.2=x.k;rw[e0];exact(tX dc dc h.1 h.2 dc).1
 rw[if_neg hok] at he;cases he
end
end Go.Proofs.Z
