/- . -/
import Derived.Test.YtocpacdnjbjjmaaGreatDoorS32
set_option maxHeartbeats 64000000
namespace Go.Proofs.YtocpacdnjbjjmaaGreatDoor
open Go Go.RowKit Tw Av Go.Proofs.Tryz
theorem Yf {a:Sta}{h t:Int}{r:Hsh}:(decide (a.h=h)&&(decide (a.t=t)&&(decide (a.r=r)&&true)))=decide (a=⟨h,t,r⟩):=by
 rw[Bool.eq_iff_iff];simp only[Bool.and_eq_true,decide_eq_true_eq,and_true]
 constructor
 ·rintro⟨h1,h2,h3⟩;cases a
  simp_all
 ·rintro rfl;exact⟨rfl,rfl,rfl⟩
theorem Hd {n:Int}:Imp (.tup [.agg 5 [str [],str [],int 0,j3 false,P9],int n]) (.tup [rO mD,int n]):=(ImpR.imp:Imp _ (.tup [.agg 5 [str [],str [],int 0,j3 false,.sl 34 [] none],int n]))
theorem BS {c k:Bs}{p:Int}{f:Bool}{l:List Sta}{id:Option Value}{n:Int}:Imp (.tup [.agg 5 [str c,str k,int p,j3 f,.sl 34 (l.map H6) id],int n]) (.tup [rO ⟨c,k,p,f,l⟩,int n]):=(ImpR.imp:Imp _ (.tup [.agg 5 [str c,str k,int p,j3 f,.sl 34 (l.map H6) none],int n]))
instance b5y {c k:Bs}{p:Int}{f:Bool}{l:List Sta}{xs:List AV}{id:Option Value}[hx:Stas xs l]:Ans prog GL 276 [.agg 5 [str c,str k,int p,j3 f,.sl 34 xs id]] True (j3 (aN ⟨c,k,p,f,l⟩)):=⟨fun _=>by
 have h:=hx.out;subst h;have hm:(l.map H6).length=l.length:=llm _;refine qE func276 rfl ntmps276 rfl (fun _ hs=>?_);refine IY 0 4 (fun hb=>?_);have hb:=lJ hb;by_cases hok:(1<=c.length/\c.length<=32)/\k.length<=64/\1<=p/\p<=1099511627776/\1<=l.length/\l.length<=32
 ·obtain⟨⟨h0,h00⟩,h1,h2,h3,h4,h5⟩:=hok;repeat' first|refine Zz ?_|intro _
  rename_i g1;refine z8 (α:=Nat) (fun i=>[(1,ptr g1),(3,int i)]) (fun i=>[.var g1 269 (.agg 5 [str c,str k,int p,j3 f,.sl 34 (l.map H6) id])])
   (fun i=>i<=l.length/\∀ j,j<i->pR c l j=true) (fun i=>l.length-i) 0 ⟨rfl,rfl,trivial⟩ slr ⟨Nat.zero_le _,fun _ h=>absurd h om⟩ ?_
  rintro i ⟨hi,hall⟩;repeat' first|refine Vz ?_|intro _
  refine o9 (fun hlt=>?_) (fun hlt=>?_)
  ·have hil:i<l.length:=om
   have hat:=TQ (c:=c) hil;repeat' first|refine Vz ?_|intro _
   cases hc:aS ⟨c,l[i].h,l[i].t,l[i].r⟩
   ·rw[hc,Bool.false_and] at hat;repeat' first|refine Vz ?_|intro _
    refine d9 ?_;rw[BH (x:=⟨c,k,p,f,l⟩) hil hat];rfl
   rw[hc,Bool.true_and] at hat;rcases i with _|i
   ·have h0:∀ j,j<1->pR c l j=true:=fun j hj=>by
     obtain rfl:j=0:=by omega
     rw[hat];rfl
    repeat' first|refine Vz ?_|intro _
    refine o6 1 ⟨rfl,rfl,trivial⟩ ?_ ⟨hil,h0⟩ om;exact r9
   ·have hil2:i<l.length:=om
    have hg2:l.getD (i+1-1) X3=l[i]:=by simp[List.getD,hil2]
    rw[hg2,dZ om,Bool.false_or] at hat;repeat' first|refine Vz ?_|intro _
    rw[dT (show (0:Int)<((i+1:Nat):Int) by omega)];repeat' first|refine Vz ?_|intro _
    rw[show (((i+1:Nat):Int)-1)=(i:Int) by omega];repeat' first|refine Vz ?_|intro _
    by_cases hq:l[i+1].h<=l[i].h
    ·have hf:fI l[i] l[i+1]=false:=by simp[fI];omega
     rw[dT hq];repeat' first|refine Vz ?_|intro _
     refine d9 ?_;rw[BH (x:=⟨c,k,p,f,l⟩) hil (hat.trans hf)];rfl
    ·rw[dZ hq];repeat' first|refine Vz ?_|intro _
     rw[show (((i+1:Nat):Int)-1)=(i:Int) by omega];repeat' first|refine Vz ?_|intro _
     refine o9 (fun hh=>?_) (fun hh=>?_)
     ·have hf:fI l[i] l[i+1]=false:=by simp[fI];omega
      repeat' first|refine Vz ?_|intro _
      refine d9 ?_;rw[BH (x:=⟨c,k,p,f,l⟩) hil (hat.trans hf)];rfl
     ·have hf:fI l[i] l[i+1]=true:=by simp[fI];omega
      repeat' first|refine Vz ?_|intro _
      refine o6 (i+2) ⟨rfl,rfl,trivial⟩ ?_ ⟨hil,fun j hj=>?_⟩ om
      ·exact r9
      rcases Nat.lt_or_ge j (i+1) with h6|h6
      ·exact hall j h6
      ·obtain rfl:j=i+1:=by omega
       exact hat.trans hf
  ·obtain rfl:i=l.length:=by omega
   repeat' first|refine Vz ?_|intro _
   refine d9 ?_;rw[Fg ⟨h1,h2,h3,h4,h5⟩ hall];rfl
 ·have hmay:aN ⟨c,k,p,f,l⟩=false:=by
   by_cases h0:k.length<=64/\1<=p/\p<=1099511627776/\1<=l.length/\l.length<=32
   ·refine BH (x:=⟨c,k,p,f,l⟩) (i:=0) h0.2.2.2.1 ?_;have hc:aS ⟨c,(l[0]'h0.2.2.2.1).h,(l[0]'h0.2.2.2.1).t,(l[0]'h0.2.2.2.1).r⟩=false:=by
     unfold aS;rw[decide_eq_false_iff_not];rintro⟨e1,e2,_⟩;exact hok ⟨⟨e1,e2⟩,h0⟩
    rw[TQ h0.2.2.2.1,hc,Bool.false_and]
   ·exact Fj h0
  rw[hmay];repeat' first|refine Vz ?_|intro _
  refine Y5 (fun h=>?_) (fun h4=>?_)
  ·repeat' first|refine Vz ?_|intro _
   refine d9 ?_;rfl
  repeat' first|refine Vz ?_|intro _
  refine Y5 (fun h=>?_) (fun h5=>?_)
  ·repeat' first|refine Vz ?_|intro _
   refine d9 ?_;rfl
  repeat' first|refine Vz ?_|intro _
  refine Y5 (fun h=>?_) (fun h6=>?_)
  ·repeat' first|refine Vz ?_|intro _
   refine d9 ?_;rfl
  repeat' first|refine Vz ?_|intro _
  refine Y5 (fun h=>?_) (fun h7=>?_)
  ·repeat' first|refine Vz ?_|intro _
   refine d9 ?_;rfl
  repeat' first|refine Vz ?_|intro _
  refine Y5 (fun h=>?_) (fun h8=>?_)
  ·repeat' first|refine Vz ?_|intro _
   refine d9 ?_;rfl
  repeat' first|refine Vz ?_|intro _
  refine Y5 (fun h=>?_) (fun h9=>?_)
  ·repeat' first|refine Vz ?_|intro _
   refine d9 ?_;rfl
  repeat' first|refine Vz ?_|intro _
  refine tH ?_;repeat' first|refine Vz ?_|intro _
  refine d9 ?_;rfl⟩
instance b5x {k c:Bs}{p h t:Int}{r:Hsh}:Ans prog GL 200 [str k,int p,.agg 35 [str c,int h,int t,hA r]] True (.tup [rO (BD k p ⟨c,h,t,r⟩),int (xO k p ⟨c,h,t,r⟩)]):=⟨fun _=>by
 refine qE func200 rfl ntmps200 rfl (fun _ hs=>?_);unfold BD xO;cases hm:aN (LX k p ⟨c,h,t,r⟩)
 all_goals
  repeat' first|refine Vz ?_|intro _
  rw[show aN ⟨c,k,p,false,[⟨h,t,r⟩]⟩=_ from hm];repeat' first|refine Vz ?_|intro _
  refine E9 ?_
 ·exact Hd
 ·exact BS (c:=c) (k:=k) (p:=p) (f:=false) (l:=[⟨h,t,r⟩]) (id:=none) (n:=0)⟩
end Go.Proofs.YtocpacdnjbjjmaaGreatDoor

namespace Go.Proofs.YtocpacdnjbjjmaaGreatDoor
open Go Go.RowKit Tw Av

theorem MQ {n:Int}{o:Cli}(h:o=mD):Imp (.tup [.agg 5 [str [],str [],int 0,j3 false,P9],int n]) (.tup [rO o,int n]):=by rw[h];exact Hd
structure CliOk (x:Cli):Prop where
 n:x.l.length<=1000000
 k:x.k.length<=1000000
 t:-4611686018427387904<=(eU x.l).t/\(eU x.l).t<=4611686018427387904
 p:-4611686018427387904<=x.p/\x.p<4611686018427387904
theorem Wj {x:Cli}{h:Hdr}{mac:Hsh}{now:Int}(e:lX x now=false):fA x h mac now=19/\jR x h mac now=mD:=by
 have:fA x h mac now=19:=by unfold fA;rw[if_pos e]
 exact⟨this,by unfold jR;rw[this];rfl⟩
theorem YH {x:Cli}{h:Hdr}{mac:Hsh}{now:Int}(e:lX x now=true)(e2:aS h=false\/h.c≠x.c):fA x h mac now=1/\jR x h mac now=mD:=by
 have:fA x h mac now=1:=by unfold fA;rw[if_neg (by rw[e];simp),if_pos e2]
 exact⟨this,by unfold jR;rw[this];rfl⟩
theorem Wl {x:Cli}{h:Hdr}{mac:Hsh}{now:Int}(e:lX x now=true)(e2:aS h=true)(e3:h.c=x.c)(e4:tY x.k h≠mac):fA x h mac now=18/\jR x h mac now=mD:=by
 have:fA x h mac now=18:=by unfold fA;rw[if_neg (by rw[e];simp),if_neg (by rw[e2,e3];simp),if_pos e4]
 exact⟨this,by unfold jR;rw[this];rfl⟩
theorem Wm {x:Cli}{h:Hdr}{mac:Hsh}{now:Int}(e:lX x now=true)(e2:aS h=true)(e3:h.c=x.c)(e4:tY x.k h=mac):fA x h mac now=0/\jR x h mac now=lH x (kU h):=by
 have:fA x h mac now=0:=by unfold fA;rw[if_neg (by rw[e];simp),if_neg (by rw[e2,e3];simp),if_neg (by rw[e4];simp)]
 exact⟨this,by unfold jR;rw[this];rfl⟩
end Go.Proofs.YtocpacdnjbjjmaaGreatDoor

namespace Go.Proofs.YtocpacdnjbjjmaaGreatDoor
open Go Go.RowKit Tw Av Go.Proofs.Tryz
theorem a3U {l:List Sta}{s:Sta}{i:Nat}{a:List Sta × Bool}(hi:i<l.length)(h:(l.take i).foldl (kT s) (some ([],false))=some a)(hh:fH s l[i]=true):xU l s=none:=by
 have:l.foldl (kT s) (some ([],false))=none:=by
  have e:l=l.take i++l[i]::l.drop (i+1):=by rw[<- List.drop_eq_getElem_cons hi,List.take_append_drop]
  rw[e,List.foldl_append,h,List.foldl_cons,EE,if_pos hh,GM]
 unfold xU;rw[this]
theorem a3T {l:List Sta}{s:Sta}{i:Nat}{acc:List Sta}{put:Bool}(hi:i<l.length)(h:(l.take i).foldl (kT s) (some ([],false))=some (acc,put))(hh:fH s l[i]=false) :
  (l.take (i+1)).foldl (kT s) (some ([],false))=some (if put=false/\s.h<l[i].h then (acc++[s]++[l[i]],true) else (acc++[l[i]],put)):=by
 rw[List.take_succ_eq_append_getElem hi,List.foldl_append,h,List.foldl_cons,List.foldl_nil,EE,if_neg (by rw[hh];simp)];split <;> rfl
theorem a2U {l:List Sta}{s:Sta}{acc:List Sta}{put:Bool}(h:l.foldl (kT s) (some ([],false))=some (acc,put)):xU l s=some (if put=true then acc else acc++[s]):=by
 unfold xU;rw[h];cases put <;> rfl
instance b5g {c k c':Bs}{p h t now:Int}{f:Bool}{r mac:Hsh}{l:List Sta}{xs:List AV}{id:Option Value}[hx:Stas xs l]:Ans prog GL 195 [.agg 5 [str c,str k,int p,j3 f,.sl 34 xs id],.agg 35 [str c',int h,int t,hA r],hA mac,int now] (CliOk ⟨c,k,p,f,l⟩/\(Rise l/\l.length<=32)/\h<=9223372036854775807/\t<=9223372036854775807) (.tup [rO (jR ⟨c,k,p,f,l⟩ ⟨c',h,t,r⟩ mac now),int (fA ⟨c,k,p,f,l⟩ ⟨c',h,t,r⟩ mac now)]):=⟨fun hpre=>by
 obtain⟨⟨p1,p2,⟨p3,p4⟩,p5,p6⟩,⟨hr,h32⟩,p7,p8⟩:=hpre;dsimp only at p1 p2 p3 p4 p5 p6;have hxo:=hx.out;subst hxo;have hm:(l.map H6).length=l.length:=llm _;refine qE func195 rfl ntmps195 rfl (fun _ hs=>?_);repeat' first|refine Vz ?_|intro _
 cases ha:lX ⟨c,k,p,f,l⟩ now
 ·obtain⟨e1,e2⟩:=Wj (h:=⟨c',h,t,r⟩) (mac:=mac) ha;rw[e1];repeat' first|refine Vz ?_|intro _
  refine E9 ?_;exact MQ e2
 repeat' first|refine Vz ?_|intro _
 cases hc:aS ⟨c',h,t,r⟩
 ·obtain⟨e1,e2⟩:=YH (mac:=mac) ha (.inl hc);rw[e1];repeat' first|refine Vz ?_|intro _
  refine E9 ?_;exact MQ e2
 repeat' first|refine Vz ?_|intro _
 by_cases hcc:c'≠c
 ·obtain⟨e1,e2⟩:=YH (h:=⟨c',h,t,r⟩) (mac:=mac) ha (.inr hcc);rw[e1,dT hcc];repeat' first|refine Vz ?_|intro _
  refine E9 ?_;exact MQ e2
 rw[dZ hcc];have hcc:c'=c:=Classical.not_not.1 hcc;repeat' first|refine Vz ?_|intro _
 by_cases hmac:tY k ⟨c',h,t,r⟩≠mac
 ·obtain⟨e1,e2⟩:=Wl (x:=⟨c,k,p,f,l⟩) ha hc hcc hmac;rw[e1,dZ (show ¬ tY k ⟨c',h,t,r⟩=mac from hmac)];repeat' first|refine Vz ?_|intro _
  refine E9 ?_;exact MQ e2
 have hmac:tY k ⟨c',h,t,r⟩=mac:=Classical.not_not.1 hmac;obtain⟨e1,e2⟩:=Wm (x:=⟨c,k,p,f,l⟩) ha hc hcc hmac;have e3:jR ⟨c,k,p,f,l⟩ ⟨c',h,t,r⟩ mac now=KX ⟨c,k,p,f,l⟩ ⟨h,t,r⟩:=e2.trans (a0Q hr h32).symm;rw[e1,e3,dT hmac];clear e1 e2 e3 p3 p4 p5 p6 p7 p8 ha hc hmac;unfold KX;repeat' first|refine Vz ?_|intro _
 cases hfd:rG l h with
 | some o=>
  simp only[Option.getD_some,Option.isSome_some];repeat' first|refine Vz ?_|intro _
  rw[Yf (a:=o)];by_cases ho:o=⟨h,t,r⟩
  ·rw[dT ho,if_pos ho];repeat' first|refine Vz ?_|intro _
   refine E9 ?_;exact BS
  ·rw[dZ ho,if_neg ho];repeat' first|refine Vz ?_|intro _
   refine E9 ?_;exact BS
 | none=>
  simp only[Option.getD_none,Option.isSome_none];repeat' first|refine Vz ?_|intro _
  rename_i g4 g5 g6 g8 hcc0 g12 g13 g15;refine aM 16 (Imp.nil (k:=34)) ?_;refine O5 (fun ok w h=>h.full 289 34 none 0) ?_;have hcl0:∀ {put:Bool} {a b:List Sta},(if put=true then a else b).length<=max a.length b.length:=by
   intro put a b;cases put <;> simp <;> omega
  refine z8 (α:=Nat × Value × List Sta × Bool) (fun q=>[(4,ptr g4),(8,ptr g8),(12,ptr g12),(15,ptr g15),(16,.sl 34 (q.2.2.1.map H6) (some q.2.1)),(17,j3 q.2.2.2),(18,int q.1)])
   (fun q=>[.tail 289 34 q.2.1,.var g15 269 (.agg 5 [str c,str k,int p,j3 true,.sl 34 (l.map H6) id]),.var g12 289 (.agg 34 [int h,int t,hA r]),.var g8 269 (.agg 5 [str [],str [],int 0,j3 false,P9]),.var g4 269 (.agg 5 [str c,str k,int p,j3 f,.sl 34 (l.map H6) id])])
   (fun q=>q.1<=l.length/\(l.take q.1).foldl (kT ⟨h,t,r⟩) (some ([],false))=some (q.2.2.1,q.2.2.2)/\q.2.2.1.length<=2*q.1) (fun q=>l.length-q.1) (0,.slice none 0 0,[],false) ⟨rfl,rfl,rfl,rfl,rfl,rfl,rfl,trivial⟩ ?_ ⟨Nat.zero_le _,rfl,Nat.zero_le _⟩ ?_
  ·exact r9
  rintro⟨i,v,acc,put⟩ ⟨hi,hfo,hal⟩;dsimp only at hi hfo hal ⊢;have hmacc:(acc.map H6).length=acc.length:=llm _;repeat' first|refine Vz ?_|intro _
  refine o9 (fun hlt=>?_) (fun hlt=>?_)
  ·have hil:i<l.length:=om
   have hnx:=fun hh=>a3T hil hfo hh;repeat' first|refine Vz ?_|intro _
   rename_i g19;by_cases hhit:fH ⟨h,t,r⟩ l[i]=true
   ·have hno:=a3U hil hfo hhit;rw[hno];simp[fH] at hhit;rcases hhit with⟨a1,a2⟩|⟨a1,a2⟩
    all_goals
     repeat' first|refine Zz ?_|intro _
     refine E9 ?_;exact BS (f:=true)
   ·have hhit:fH ⟨h,t,r⟩ l[i]=false:=by simpa using hhit
    have hnx:=hnx hhit;simp[fH] at hhit;have hone:(acc++[l[i]]).map H6=acc.map H6++[H6 l[i]]:=by simp
    have htwo:(acc++[(⟨h,t,r⟩:Sta)]++[l[i]]).map H6=acc.map H6++[H6 ⟨h,t,r⟩]++[H6 l[i]]:=sm
    cases put
    ·by_cases a1:h<l[i].h
     ·rw[if_pos ⟨rfl,a1⟩] at hnx;repeat' first|refine Zz ?_|intro _
      refine I4 (fun v1=>?_);repeat' first|refine Zz ?_|intro _
      refine I4 (fun v2=>?_);repeat' first|refine Zz ?_|intro _
      refine M6 16 (v':=.sl 34 ((acc++[(⟨h,t,r⟩:Sta)]++[l[i]]).map H6) (some v2)) (Imp.of_eq (by rw[htwo])) ?_;refine o6 (i+1,v2,acc++[(⟨h,t,r⟩:Sta)]++[l[i]],true) ⟨rfl,rfl,rfl,rfl,rfl,rfl,rfl,trivial⟩ ?_ ⟨hil,hnx,by simp;omega⟩ (by dsimp only;omega);exact r9
     ·rw[if_neg (fun hh=>a1 hh.2)] at hnx;by_cases a2:l[i].h<h
      all_goals
       repeat' first|refine Zz ?_|intro _
       refine I4 (fun v2=>?_);repeat' first|refine Zz ?_|intro _
       refine M6 16 (v':=.sl 34 ((acc++[l[i]]).map H6) (some v2)) (Imp.of_eq (by rw[hone])) ?_;refine o6 (i+1,v2,acc++[l[i]],false) ⟨rfl,rfl,rfl,rfl,rfl,rfl,rfl,trivial⟩ ?_ ⟨hil,hnx,by simp;omega⟩ (by dsimp only;omega);exact r9
    ·rw[if_neg (fun hh=>by cases hh.1)] at hnx;by_cases a1:h<l[i].h
     ·repeat' first|refine Zz ?_|intro _
      refine I4 (fun v2=>?_);repeat' first|refine Zz ?_|intro _
      refine M6 16 (v':=.sl 34 ((acc++[l[i]]).map H6) (some v2)) (Imp.of_eq (by rw[hone])) ?_;refine o6 (i+1,v2,acc++[l[i]],true) ⟨rfl,rfl,rfl,rfl,rfl,rfl,rfl,trivial⟩ ?_ ⟨hil,hnx,by simp;omega⟩ (by dsimp only;omega);exact r9
     ·by_cases a2:l[i].h<h
      all_goals
       repeat' first|refine Zz ?_|intro _
       refine I4 (fun v2=>?_);repeat' first|refine Zz ?_|intro _
       refine M6 16 (v':=.sl 34 ((acc++[l[i]]).map H6) (some v2)) (Imp.of_eq (by rw[hone])) ?_;refine o6 (i+1,v2,acc++[l[i]],true) ⟨rfl,rfl,rfl,rfl,rfl,rfl,rfl,trivial⟩ ?_ ⟨hil,hnx,by simp;omega⟩ (by dsimp only;omega);exact r9
  ·obtain rfl:i=l.length:=by omega
   rw[List.take_length] at hfo;rw[a2U hfo];repeat' first|refine Vz ?_|intro _
   have hone:(acc++[(⟨h,t,r⟩:Sta)]).map H6=acc.map H6++[H6 ⟨h,t,r⟩]:=sm
   refine IX (α:=Value) (fun v=>[(4,ptr g4),(8,ptr g8),(16,.sl 34 ((if put=true then acc else acc++[(⟨h,t,r⟩:Sta)]).map H6) (some v))]) (fun _=>[.var g8 269 (.agg 5 [str [],str [],int 0,j3 false,P9]),.var g4 269 (.agg 5 [str c,str k,int p,j3 f,.sl 34 (l.map H6) id])]) ?_ (fun v=>?_)
   ·cases put
    ·repeat' first|refine Vz ?_|intro _
     refine I4 (fun v2=>?_);repeat' first|refine Vz ?_|intro _
     refine fO v2 ⟨rfl,rfl,by rw[<- hone];rfl,trivial⟩ ?_;exact r9
    ·repeat' first|refine Vz ?_|intro _
     refine fO v ⟨rfl,rfl,rfl,trivial⟩ ?_;exact r9
   ·have hle:(if put=true then acc else acc++[(⟨h,t,r⟩:Sta)]).length<=66:=by
     cases put <;> simp <;> omega
    generalize (if put=true then acc else acc++[(⟨h,t,r⟩:Sta)])=L at *;have hmL:(L.map H6).length=L.length:=llm _;simp only[VQ];repeat' first|refine Vz ?_|intro _
    refine o9 (fun h9=>?_) (fun h9=>?_)
    ·rw[if_pos (show 32<L.length by omega)];repeat' first|refine Vz ?_|intro _
     refine wN 1 L.length ?_;rw[<- hmL,List.take_length,<- List.map_drop];repeat' first|refine Vz ?_|intro _
     refine E9 ?_;exact BS
    ·rw[if_neg (show ¬ 32<L.length by omega)];repeat' first|refine Vz ?_|intro _
     refine E9 ?_;exact BS⟩

def jZ (s:Bs):Bs:=j5 99 32 s false
def qN (s:Bs):Bool:=A7 99 32 s false
def jY (s:Bs):Bs:=j5 104 8 (jZ s) (qN s)
def qM (s:Bs):Bool:=K3 104 1099511627776 (jZ s) (qN s)
def eO (s:Bs):Bs:=j5 116 8 (jY s) (qM s)
def iZ (s:Bs):Bool:=K3 116 1099511627776 (jY s) (qM s)
def KP (s:Bs):Bs:=D5 114 32 (eO s) (iZ s)
def EU (s:Bs):Int:=P5 (j5 114 32 (eO s) (iZ s)) (A7 114 32 (eO s) (iZ s))
def zW (s:Bs):Hdr:=⟨D5 99 32 s false,J8 104 1099511627776 (jZ s) (qN s),J8 116 1099511627776 (jY s) (qM s),R4 (KP s)⟩
def kX (s:Bs):Bool:=decide ((KP s).length=32)&&(decide (EU s=0)&&aS (zW s))
def PI:Hdr:=⟨[],0,0,J7⟩
def aX (s:Bs):Hdr:=if kX s=true then zW s else PI
def qL (s:Bs):Int:=if kX s=true then 0 else 10
theorem Br (s:Bs):(jZ s).length<=s.length/\(jY s).length<=s.length/\(eO s).length<=s.length:=by
 have h1:=(Q9 99 32 s false).1;have h2:=(Q9 104 8 (jZ s) (qN s)).1;have h3:=(Q9 116 8 (jY s) (qM s)).1;unfold eO;unfold jY at *;unfold jZ at *;exact⟨h1,om,om⟩
theorem Cj {s:Bs}:j5 99 32 s false=jZ s:=rfl
theorem Ci {s:Bs}:A7 99 32 s false=qN s:=rfl
theorem Ch {s:Bs}:j5 104 8 (jZ s) (qN s)=jY s:=rfl
theorem Cg {s:Bs}:K3 104 1099511627776 (jZ s) (qN s)=qM s:=rfl
theorem Cf {s:Bs}:j5 116 8 (jY s) (qM s)=eO s:=rfl
theorem Ce {s:Bs}:K3 116 1099511627776 (jY s) (qM s)=iZ s:=rfl
instance b5a {s:Bs}:Ans prog GL 415 [str s] (s.length<=1000000000) (.tup [jK (aX s),int (qL s)]):=⟨fun hl=>by
 obtain⟨l1,l2,l3⟩:=Br s;have e1:(jZ s).length=(j5 99 32 s false).length:=rfl;have e2:(jY s).length=(j5 104 8 (j5 99 32 s false) (A7 99 32 s false)).length:=rfl;have e3:(eO s).length=(j5 116 8 (j5 104 8 (j5 99 32 s false) (A7 99 32 s false)) (K3 104 1099511627776 (j5 99 32 s false) (A7 99 32 s false))).length:=rfl;refine qE func415 rfl ntmps415 rfl (fun _ hs=>?_);repeat' first|refine Yz ?_|intro _
 refine M3 (args:=[str s]) [] _ (by rw[hs];exact rY) (fun u m1 hh=>?_) lpr;obtain⟨gr,rfl,rfl⟩:=hh;repeat' first|refine Yz ?_|intro _
 rw[Cj,Ci,Ch,Cg,Cf,Ce];have hX:KP s=D5 114 32 (eO s) (iZ s):=rfl;have hV:zW s=⟨D5 99 32 s false,J8 104 1099511627776 (jZ s) (qN s),J8 116 1099511627776 (jY s) (qM s),R4 (D5 114 32 (eO s) (iZ s))⟩:=rfl;have hEE:EU s=P5 (j5 114 32 (eO s) (iZ s)) (A7 114 32 (eO s) (iZ s)):=rfl;by_cases hx:(D5 114 32 (eO s) (iZ s)).length=32
 rotate_left
 ·have hk:kX s=false:=by
   unfold kX;rw[hX,dZ hx];rfl
  rw[aX,qL,hk,if_neg hx];repeat' first|refine Yz ?_|intro _
  refine d9 ?_;rfl
 rw[if_pos hx];repeat' first|refine Yz ?_|intro _
 by_cases hE:EU s=0
 rotate_left
 ·have hk:kX s=false:=by
   unfold kX;rw[dZ hE,Bool.false_and,Bool.and_false]
  rw[aX,qL,hk];rw[hEE] at hE;repeat' first|refine Yz ?_|intro _
  refine d9 ?_;rfl
 have hk:kX s=aS (zW s):=by
  unfold kX;rw[hX,dT hx,dT hE,Bool.true_and,Bool.true_and]
 rw[aX,qL,hk,hV];rw[hEE] at hE;repeat' first|refine Yz ?_|intro _
 cases hc:aS ⟨D5 99 32 s false,J8 104 1099511627776 (jZ s) (qN s),J8 116 1099511627776 (jY s) (qM s),R4 (D5 114 32 (eO s) (iZ s))⟩
 ·repeat' first|refine Yz ?_|intro _
  refine d9 ?_;rfl
 ·repeat' first|refine Yz ?_|intro _
  refine d9 ?_;rfl⟩

instance b5n {s:Bs}:Ans prog GL 342 [str s] (s.length<=1000000000) (.tup [jK (aX s),int (qL s)]):=⟨fun hl=>by
 obtain⟨l1,l2,l3⟩:=Br s;have e1:(jZ s).length=(j5 99 32 s false).length:=rfl;have e2:(jY s).length=(j5 104 8 (j5 99 32 s false) (A7 99 32 s false)).length:=rfl;have e3:(eO s).length=(j5 116 8 (j5 104 8 (j5 99 32 s false) (A7 99 32 s false)) (K3 104 1099511627776 (j5 99 32 s false) (A7 99 32 s false))).length:=rfl;refine qE func342 rfl ntmps342 rfl (fun _ hs=>?_);repeat' first|refine Yz ?_|intro _
 rw[Cj,Ci,Ch,Cg,Cf,Ce];have hX:KP s=D5 114 32 (eO s) (iZ s):=rfl;have hV:zW s=⟨D5 99 32 s false,J8 104 1099511627776 (jZ s) (qN s),J8 116 1099511627776 (jY s) (qM s),R4 (D5 114 32 (eO s) (iZ s))⟩:=rfl;have hEE:EU s=P5 (j5 114 32 (eO s) (iZ s)) (A7 114 32 (eO s) (iZ s)):=rfl;by_cases hE:EU s=0
 rotate_left
 ·have hk:kX s=false:=by
   unfold kX;rw[dZ hE,Bool.false_and,Bool.and_false]
  rw[aX,qL,hk];rw[hEE] at hE;repeat' first|refine Yz ?_|intro _
  refine d9 ?_;rfl
 by_cases hx:(D5 114 32 (eO s) (iZ s)).length=32
 rotate_left
 ·have hk:kX s=false:=by
   unfold kX;rw[hX,dZ hx];rfl
  rw[aX,qL,hk];rw[hEE] at hE;repeat' first|refine Yz ?_|intro _
  refine d9 ?_;rfl
 have hk:kX s=aS (zW s):=by
  unfold kX;rw[hX,dT hx,dT hE,Bool.true_and,Bool.true_and]
 rw[aX,qL,hk,hV];rw[hEE] at hE;repeat' first|refine Yz ?_|intro _
 generalize D5 114 32 (eO s) (iZ s)=x at *;generalize D5 99 32 s false=C at *;generalize J8 104 1099511627776 (jZ s) (qN s)=H at *;generalize J8 116 1099511627776 (jY s) (qM s)=T at *;rename_i g2 gr g5;refine z8 (α:=Nat) (fun i=>[(2,ptr g2),(5,ptr g5),(6,str x),(7,int i)]) (fun i=>[.var g5 50 (.agg 35 [str C,int H,int T,.agg 32 ((dV x i).map p9)]),.var g2 50 (jK PI)]) (fun i=>i<=32) (fun i=>32-i) 0 ⟨rfl,rfl,rfl,rfl,trivial⟩ ?_ (Nat.zero_le _) ?_
 focus
  exact r9
 intro i hi;repeat' first|refine Yz ?_|intro _
 refine o9 (fun hlt=>?_) (fun hlt=>?_)
 ·have hil:i<32:=om
  have hix:i<x.length:=om
  repeat' first|refine Yz ?_|intro _
  refine rQ i ?_ (List.getElem?_eq_getElem hix);repeat' first|refine Yz ?_|intro _
  refine O8 i ?_;have hst:=a0H (n:=35) (pre:=[str C,int H,int T]) (post:=[]) (l:=dV x i) (j:=i) (c:=x[i]) (MM hx hi) (by rw[MM hx hi];exact hil) (o:=0+3+i*1) (by simp[AV.size]);rw[TV hx hil] at hst;refine bP (v':=.agg 35 [str C,int H,int T,.agg 32 ((dV x (i+1)).map p9)]) ?_ (hp:=hst);repeat' first|refine Yz ?_|intro _
  exact o6 (i+1) ⟨rfl,rfl,rfl,rfl,trivial⟩ slr hil om
 ·obtain rfl:i=32:=by omega
  have hA1:AV.agg 32 ((dV x 32).map p9)=hA (R4 x):=by rw[TW hx,hA,MW hx]
  rw[hA1];repeat' first|refine Yz ?_|intro _
  cases hc:aS ⟨C,H,T,R4 x⟩
  ·repeat' first|refine Yz ?_|intro _
   refine d9 ?_;rfl
  ·repeat' first|refine Yz ?_|intro _
   refine d9 ?_;rfl⟩

structure CliW (x:Cli):Prop where
 n:x.l.length<=1000000
 p:x.p<=9223372036854775807
 s:∀ s∈x.l,s.h<=9223372036854775807/\s.t<=9223372036854775807
def wG (x:Cli):Bs:=o8 99 x.c++o8 107 x.k++D8 112 x.p++D8 102 (if x.f=true then 1 else 0)++O7 115 (x.l.map fun s=>pV (uI x.c s))
instance b8B {c k:Bs}{p:Int}{f:Bool}{l:List Sta}{xs:List AV}{id:Option Value}[hx:Stas xs l]:Ans prog GL 307 [.agg 5 [str c,str k,int p,j3 f,.sl 34 xs id]] (CliW ⟨c,k,p,f,l⟩) (str (wG ⟨c,k,p,f,l⟩)):=⟨fun hp=>by
 obtain⟨hn,hp,hs4⟩:=hp;dsimp only at hn hp hs4;have h:=hx.out;subst h;have hm:(l.map H6).length=l.length:=llm _;refine qE func307 rfl ntmps307 rfl (fun _ hs=>?_);repeat' first|refine Yz ?_|intro _
 rename_i g1;generalize hF:(if f=true then 1 else 0:Int)=F at *;refine IX (α:=Unit) (fun _=>[(1,ptr g1),(3,int F)]) (fun _=>[.var g1 269 (.agg 5 [str c,str k,int p,j3 f,.sl 34 (l.map H6) id])]) ?_ (fun _=>?_)
 focus
  subst hF;cases f
  all_goals
   repeat' first|refine Yz ?_|intro _
   exact fO () ⟨rfl,rfl,trivial⟩ slr
 have hF0:F<=9223372036854775807:=by subst hF;split <;> decide
 repeat' first|refine Yz ?_|intro _
 refine aM 4 (Imp.nil (k:=1)) ?_;refine O5 (fun ok w h=>h.full 9 1 none 0) ?_;refine z8 (α:=Nat × Value) (fun q=>[(1,ptr g1),(3,int F),(4,.sl 1 (((l.take q.1).map fun s=>pV (uI c s)).map str) (some q.2)),(10,.sl 34 (l.map H6) id),(11,int l.length),(12,int q.1)]) (fun q=>[.tail 9 1 q.2,.var g1 269 (.agg 5 [str c,str k,int p,j3 f,.sl 34 (l.map H6) id])]) (fun q=>q.1<=l.length) (fun q=>l.length-q.1) (0,.slice none 0 0) ⟨rfl,rfl,rfl,rfl,by rw[<- hm];rfl,rfl,trivial⟩ slr (Nat.zero_le _) ?_;rintro⟨i,v⟩ hi;dsimp only at hi ⊢;repeat' first|refine Yz ?_|intro _
 refine o9 (fun hlt=>?_) (fun hlt=>?_)
 ·have hil:i<l.length:=om
  have hst:=hs4 l[i] (List.getElem_mem hil);have hml:((l.take i).map fun s=>pV (uI c s)).length<=1000000:=by simp;omega
  repeat' first|refine Yz ?_|intro _
  refine I4 (fun v'=>?_);repeat' first|refine Yz ?_|intro _
  refine o6 (i+1,v') ⟨rfl,rfl,?_,rfl,rfl,rfl,trivial⟩ (List.Sublist.cons _ slr) hil (by dsimp only;omega);rw[List.take_succ_eq_append_getElem hil,List.map_append,List.map_append];rfl
 ·obtain rfl:i=l.length:=by omega
  rw[List.take_length];have hml:(l.map fun s=>pV (uI c s)).length<=8000000:=by simp;omega
  repeat' first|refine Yz ?_|intro _
  refine d9 ?_;unfold wG;dsimp only;rw[hF];rfl⟩
instance b5S {c k:Bs}{p:Int}{f:Bool}{l:List Sta}{xs:List AV}{id:Option Value}[hx:Stas xs l]:Ans prog GL 198 [.agg 5 [str c,str k,int p,j3 f,.sl 34 xs id]] (CliW ⟨c,k,p,f,l⟩) (str (wG ⟨c,k,p,f,l⟩)):=⟨fun hp=>by
 obtain⟨hn,hp,hs4⟩:=hp;dsimp only at hn hp hs4;have h:=hx.out;subst h;have hm:(l.map H6).length=l.length:=llm _;refine qE func198 rfl ntmps198 rfl (fun _ hs=>?_);repeat' first|refine Yz ?_|intro _
 rename_i g1;generalize hF:(if f=true then 1 else 0:Int)=F at *;refine IX (α:=Unit) (fun _=>[(1,ptr g1),(3,int F)]) (fun _=>[.var g1 269 (.agg 5 [str c,str k,int p,j3 f,.sl 34 (l.map H6) id])]) ?_ (fun _=>?_)
 focus
  subst hF;cases f
  all_goals
   repeat' first|refine Yz ?_|intro _
   exact fO () ⟨rfl,rfl,trivial⟩ slr
 have hF0:F<=9223372036854775807:=by subst hF;split <;> decide
 repeat' first|refine Yz ?_|intro _
 refine aM 4 (Imp.nil (k:=1)) ?_;refine O5 (fun ok w h=>h.full 9 1 none 0) ?_;refine z8 (α:=Nat × Value) (fun q=>[(1,ptr g1),(3,int F),(4,.sl 1 (((l.take q.1).map fun s=>pV (uI c s)).map str) (some q.2)),(5,int q.1)]) (fun q=>[.tail 9 1 q.2,.var g1 269 (.agg 5 [str c,str k,int p,j3 f,.sl 34 (l.map H6) id])]) (fun q=>q.1<=l.length) (fun q=>l.length-q.1) (0,.slice none 0 0) ⟨rfl,rfl,rfl,rfl,trivial⟩ slr (Nat.zero_le _) ?_;rintro⟨i,v⟩ hi;dsimp only at hi ⊢;repeat' first|refine Yz ?_|intro _
 refine o9 (fun hlt=>?_) (fun hlt=>?_)
 ·have hil:i<l.length:=om
  have hst:=hs4 l[i] (List.getElem_mem hil);have hml:((l.take i).map fun s=>pV (uI c s)).length<=1000000:=by simp;omega
  repeat' first|refine Yz ?_|intro _
  apply V8 [0];exact rfl;exact rfl;exact rfl;kernel_rfl;intro _ _;refine I4 (fun v'=>?_);refine j4 (U4 [.tail 9 1 v'] [] rfl rfl lpr rfl ?_);repeat' first|refine Yz ?_|intro _
  refine o6 (i+1,v') ⟨rfl,rfl,?_,rfl,trivial⟩ slr hil (by dsimp only;omega);rw[List.take_succ_eq_append_getElem hil,List.map_append,List.map_append];rfl
 ·obtain rfl:i=l.length:=by omega
  rw[List.take_length];have hml:(l.map fun s=>pV (uI c s)).length<=8000000:=by simp;omega
  repeat' first|refine Yz ?_|intro _
  refine d9 ?_;unfold wG;dsimp only;rw[hF];rfl⟩

def Df (s:Bs):Bs:=D5 99 32 s false
def lD (s:Bs):Bs:=j5 99 32 s false
def qY (s:Bs):Bool:=A7 99 32 s false
def rcK (s:Bs):Bs:=D5 107 64 (lD s) (qY s)
def lC (s:Bs):Bs:=j5 107 64 (lD s) (qY s)
def qX (s:Bs):Bool:=A7 107 64 (lD s) (qY s)
def rcP (s:Bs):Int:=J8 112 1099511627776 (lC s) (qX s)
def kZ (s:Bs):Bs:=j5 112 8 (lC s) (qX s)
def qW (s:Bs):Bool:=K3 112 1099511627776 (lC s) (qX s)
def rcF (s:Bs):Bool:=decide (J8 102 1 (kZ s) (qW s)=1)
def fZ (s:Bs):Bs:=j5 102 8 (kZ s) (qW s)
def kH (s:Bs):Bool:=K3 102 1 (kZ s) (qW s)
def qV (s:Bs):List Bs:=fG 115 32 200 (fZ s) (kH s)
def FH (s:Bs):Int:=P5 (j5 115 16777215 (fZ s) (kH s)) (aY 115 32 200 (fZ s) (kH s))
def kF (C t:Bs):Bool:=decide (qL t=0)&&decide ((aX t).c=C)
def AJ (s:Bs):Cli:=⟨Df s,rcK s,rcP s,rcF s,(qV s).map fun t=>kU (aX t)⟩
def FF (s:Bs):Bool:=(qV s).all (kF (Df s))&&(decide (FH s=0)&&aN (AJ s))
def qU (s:Bs):Cli:=if FF s=true then AJ s else mD
def pF (s:Bs):Int:=if FF s=true then 0 else 10
theorem RJ {s:Bs}:j5 99 32 s false=lD s:=rfl
theorem Cc {s:Bs}:A7 99 32 s false=qY s:=rfl
theorem RI {s:Bs}:j5 107 64 (lD s) (qY s)=lC s:=rfl
theorem Cb {s:Bs}:A7 107 64 (lD s) (qY s)=qX s:=rfl
theorem RH {s:Bs}:j5 112 8 (lC s) (qX s)=kZ s:=rfl
theorem Ca {s:Bs}:K3 112 1099511627776 (lC s) (qX s)=qW s:=rfl
theorem RG {s:Bs}:j5 102 8 (kZ s) (qW s)=fZ s:=rfl
theorem Bz {s:Bs}:K3 102 1 (kZ s) (qW s)=kH s:=rfl
theorem KQ {s:Bs}:fG 115 32 200 (fZ s) (kH s)=qV s:=rfl
theorem De (s:Bs):(lD s).length<=s.length/\(lC s).length<=s.length/\(kZ s).length<=s.length/\(fZ s).length<=s.length:=by
 have h1:=(Q9 99 32 s false).1;have h2:=(Q9 107 64 (lD s) (qY s)).1;have h3:=(Q9 112 8 (lC s) (qX s)).1;have h4:=(Q9 102 8 (kZ s) (qW s)).1;rw[RJ] at h1;rw[RI] at h2;rw[RH] at h3;rw[RG] at h4;exact⟨h1,om,om,om⟩
theorem Po {α:Type}{l:List α}{p:α->Bool}{i:Nat}(hi:i<l.length)(h:(l.take i).all p=true)(h2:p l[i]=true):(l.take (i+1)).all p=true:=by
 rw[List.take_succ_eq_append_getElem hi,List.all_append,h];simp[h2]
theorem OD {α:Type}{l:List α}{p:α->Bool}{i:Nat}(hi:i<l.length)(h2:p l[i]=false):l.all p=false:=by
 rw[List.all_eq_false];exact⟨l[i],List.getElem_mem hi,by simp[h2]⟩
theorem Oa {c most:Int}(h:0<=most):∀ {f:Nat} {s:Bs} {b:Bool} {x:Bs},x∈(eX c most f s b).1->(x.length:Int)<=most
 | 0,_,_,_,hx=>by simp[eX] at hx
 | f+1,s,b,x,hx=>by
  rw[eX] at hx;split at hx
  ·simp at hx
  ·rcases List.mem_cons.1 hx with rfl|hx
   ·exact(uA c most s b).2 h
   ·exact Oa h hx
theorem Dh {c many most:Int}{s:Bs}{b:Bool}{x:Bs}(h:0<=most)(hx:x∈fG c many most s b):(x.length:Int)<=most:=by
 unfold fG xM at hx;split at hx
 ·simp at hx
 ·exact Oa h hx
theorem Di {c many most:Int}{s:Bs}{b:Bool}(h0:0<=many):((fG c many most s b).length:Int)<=many:=by
 unfold fG xM;split
 ·simpa using h0
 ·rename_i h;unfold uX at h;by_cases hm:many<((yU c most (D5 c 16777215 s b)).1.length:Int)
  ·rw[dT hm] at h;simp at h
  ·omega
theorem vW:Imp (.tup [.agg 5 [.lit (.string ⟨#[]⟩),.lit (.string ⟨#[]⟩),.lit (.int .i64 0),.lit (.bool false),.lit (.slice none 0 0)],int 10]) (.tup [rO mD,int 10]):=(inferInstance:ImpR _ (.tup [.agg 5 [str [],str [],int 0,j3 false,.sl 34 [] none],int 10])).imp
theorem Hg {C K:Bs}{Pd:Int}{Fr:Bool}{xs:List AV}{v:Value}:Imp (.tup [.agg 5 [str C,str K,int Pd,j3 Fr,.sl 34 xs (some v)],int 0]) (.tup [.agg 5 [str C,str K,int Pd,j3 Fr,.sl 34 xs none],int 0]):=ImpR.imp
theorem He {C K:Bs}{Pd:Int}{Fr:Bool}:ImpC (.agg 5 [str C,str K,int Pd,j3 Fr,.lit (.slice none 0 0)]) (.agg 5 [str C,str K,int Pd,j3 Fr,.sl 34 [] (some (.slice none 0 0))]):=fun ok w cs h=>by
 rw[RC] at h ⊢;refine⟨h.1,?_⟩;have h:=h.2;rw[RCs] at h ⊢;obtain⟨a1,b1,e1,f1,h⟩:=h;refine⟨a1,b1,e1,f1,?_⟩;rw[RCs] at h ⊢;obtain⟨a1,b1,e1,f1,h⟩:=h;refine⟨a1,b1,e1,f1,?_⟩;rw[RCs] at h ⊢;obtain⟨a1,b1,e1,f1,h⟩:=h;refine⟨a1,b1,e1,f1,?_⟩;rw[RCs] at h ⊢;obtain⟨a1,b1,e1,f1,h⟩:=h;refine⟨a1,b1,e1,f1,?_⟩;rw[RCs] at h ⊢;obtain⟨a1,b1,e1,f1,h⟩:=h;exact⟨a1,b1,e1,ImpC.nilT _ _ _ f1,h⟩
instance b8z {s:Bs}:Ans prog GL 362 [str s] (s.length<=1000000000) (.tup [rO (qU s),int (pF s)]):=⟨fun hl=>by
 obtain⟨l1,l2,l3,l4⟩:=De s;have e1:(lD s).length=(j5 99 32 s false).length:=rfl;have e2:(lC s).length=(j5 107 64 (j5 99 32 s false) (A7 99 32 s false)).length:=rfl;have e3:(kZ s).length=(j5 112 8 (j5 107 64 (j5 99 32 s false) (A7 99 32 s false)) (A7 107 64 (j5 99 32 s false) (A7 99 32 s false))).length:=rfl;have e4:(fZ s).length=(j5 102 8 (j5 112 8 (j5 107 64 (j5 99 32 s false) (A7 99 32 s false)) (A7 107 64 (j5 99 32 s false) (A7 99 32 s false))) (K3 112 1099511627776 (j5 107 64 (j5 99 32 s false) (A7 99 32 s false)) (A7 107 64 (j5 99 32 s false) (A7 99 32 s false)))).length:=rfl;refine qE func362 rfl ntmps362 rfl (fun _ hs=>?_);repeat' first|refine Yz ?_|intro _
 refine M3 (args:=[str s]) [] _ (by rw[hs];exact rY) (fun u m1 hh=>?_) lpr;obtain⟨gr,rfl,rfl⟩:=hh;repeat' first|refine Yz ?_|intro _
 rw[RJ,Cc,RI,Cb,RH,Ca,RG,Bz,KQ];have hE:FH s=P5 (j5 115 16777215 (fZ s) (kH s)) (aY 115 32 200 (fZ s) (kH s)):=rfl;have hV:AJ s=⟨D5 99 32 s false,D5 107 64 (lD s) (qY s),J8 112 1099511627776 (lC s) (qX s),decide (J8 102 1 (kZ s) (qW s)=1),(qV s).map fun t=>kU (aX t)⟩:=rfl;have hK:FF s=((qV s).all (kF (D5 99 32 s false))&&(decide (FH s=0)&&aN (AJ s))):=rfl;have hm:=fun t (ht:t∈qV s)=>Dh (c:=115) (many:=32) (most:=200) dc ht;have hn:=Di (c:=115) (many:=32) (most:=200) (s:=fZ s) (b:=kH s) dc;rw[KQ] at hn;rw[qU,pF,hK,hV];rw[hE];generalize qV s=L at *;generalize j5 115 16777215 (fZ s) (kH s)=S5 at *;generalize aY 115 32 200 (fZ s) (kH s)=B5 at *;generalize D5 99 32 s false=C at *;generalize D5 107 64 (lD s) (qY s)=K at *;generalize J8 112 1099511627776 (lC s) (qX s)=Pd at *;generalize decide (J8 102 1 (kZ s) (qW s)=1)=Fr at *;have hml:(L.map str).length=L.length:=llm _;rename_i g2 g5;refine gM (g:=g5) (v':=.agg 5 [str C,str K,int Pd,j3 Fr,.sl 34 [] (some (.slice none 0 0))]) He ?_;refine O5 (fun ok w h=>h.full 289 34 none 0) ?_;refine z8 (α:=Nat × Value) (fun q=>[(2,ptr g2),(4,ptr gr),(5,ptr g5),(26,.sl 1 (L.map str) none),(27,int L.length),(28,int q.1)])
  (fun q=>[.tail 289 34 q.2,.var g5 269 (.agg 5 [str C,str K,int Pd,j3 Fr,.sl 34 (((L.take q.1).map fun t=>kU (aX t)).map H6) (some q.2)]),.var gr 201 (A9 S5 B5),.var g2 269 (.agg 5 [str [],str [],int 0,j3 false,P9])])
  (fun q=>q.1<=L.length/\(L.take q.1).all (kF C)=true) (fun q=>L.length-q.1) (0,.slice none 0 0) ⟨rfl,rfl,rfl,rfl,by rw[<- hml];rfl,rfl,trivial⟩ slr ⟨Nat.zero_le _,rfl⟩ ?_
 rintro⟨i,v⟩ ⟨h1,h2⟩;dsimp only at h1 h2 ⊢;repeat' first|refine Yz ?_|intro _
 refine o9 (fun hlt=>?_) (fun hlt=>?_)
 ·have hil:i<L.length:=om
  have ht:=hm L[i] (List.getElem_mem hil);have hml2:((L.take i).map fun t=>kU (aX t)).length<=32:=by simp;omega
  repeat' first|refine Yz ?_|intro _
  by_cases he:qL L[i]=0
  rotate_left
  ·rw[OD hil (show kF C L[i]=false by unfold kF;rw[dZ he];rfl),Bool.false_and];repeat' first|refine Yz ?_|intro _
   refine E9 ?_;exact vW
  by_cases hcc:(aX L[i]).c=C
  rotate_left
  ·rw[OD hil (show kF C L[i]=false by unfold kF;rw[dZ hcc,Bool.and_false]),Bool.false_and];repeat' first|refine Yz ?_|intro _
   rw[dT (show (aX L[i]).c≠C from hcc)];repeat' first|refine Yz ?_|intro _
   refine E9 ?_;exact vW
  ·repeat' first|refine Yz ?_|intro _
   rw[dZ (show ¬ (aX L[i]).c≠C from fun h=>h hcc)];repeat' first|refine Yz ?_|intro _
   apply V8 [1];exact rfl;exact rfl;exact rfl;kernel_rfl;intro _ _;refine I4 (fun v'=>?_);refine j4 (U4 [.tail 289 34 v'] [] rfl rfl lpr rfl ?_);repeat' first|refine Yz ?_|intro _
   refine o6 (i+1,v') ⟨rfl,rfl,rfl,rfl,rfl,rfl,trivial⟩ ?_ ⟨hil,Po hil h2 (by unfold kF;rw[dT he,dT hcc];rfl)⟩ (by dsimp only;omega);dsimp only;rw[List.take_succ_eq_append_getElem hil,List.map_append,List.map_append];exact List.Sublist.cons _ slr
 ·obtain rfl:i=L.length:=by omega
  rw[List.take_length] at h2 ⊢;rw[h2,Bool.true_and];repeat' first|refine Yz ?_|intro _
  by_cases hE0:P5 S5 B5=0
  rotate_left
  ·rw[dZ hE0,Bool.false_and];repeat' first|refine Yz ?_|intro _
   refine E9 ?_;exact vW
  rw[dT hE0,Bool.true_and];repeat' first|refine Yz ?_|intro _
  cases hmc:aN ⟨C,K,Pd,Fr,L.map fun t=>kU (aX t)⟩
  ·repeat' first|refine Yz ?_|intro _
   refine E9 ?_;exact vW
  ·repeat' first|refine Yz ?_|intro _
   refine E9 ?_;exact Hg⟩
instance b5R {s:Bs}:Ans prog GL 271 [str s] (s.length<=1000000000) (.tup [rO (qU s),int (pF s)]):=⟨fun hl=>by
 obtain⟨l1,l2,l3,l4⟩:=De s;have e1:(lD s).length=(j5 99 32 s false).length:=rfl;have e2:(lC s).length=(j5 107 64 (j5 99 32 s false) (A7 99 32 s false)).length:=rfl;have e3:(kZ s).length=(j5 112 8 (j5 107 64 (j5 99 32 s false) (A7 99 32 s false)) (A7 107 64 (j5 99 32 s false) (A7 99 32 s false))).length:=rfl;have e4:(fZ s).length=(j5 102 8 (j5 112 8 (j5 107 64 (j5 99 32 s false) (A7 99 32 s false)) (A7 107 64 (j5 99 32 s false) (A7 99 32 s false))) (K3 112 1099511627776 (j5 107 64 (j5 99 32 s false) (A7 99 32 s false)) (A7 107 64 (j5 99 32 s false) (A7 99 32 s false)))).length:=rfl;refine qE func271 rfl ntmps271 rfl (fun _ hs=>?_);repeat' first|refine Yz ?_|intro _
 rw[RJ,Cc,RI,Cb,RH,Ca,RG,Bz,KQ];have hE:FH s=P5 (j5 115 16777215 (fZ s) (kH s)) (aY 115 32 200 (fZ s) (kH s)):=rfl;have hV:AJ s=⟨D5 99 32 s false,D5 107 64 (lD s) (qY s),J8 112 1099511627776 (lC s) (qX s),decide (J8 102 1 (kZ s) (qW s)=1),(qV s).map fun t=>kU (aX t)⟩:=rfl;have hK:FF s=((qV s).all (kF (D5 99 32 s false))&&(decide (FH s=0)&&aN (AJ s))):=rfl;have hm:=fun t (ht:t∈qV s)=>Dh (c:=115) (many:=32) (most:=200) dc ht;have hn:=Di (c:=115) (many:=32) (most:=200) (s:=fZ s) (b:=kH s) dc;rw[KQ] at hn;rw[qU,pF,hK,hV];rw[hE];generalize qV s=L at *;generalize j5 115 16777215 (fZ s) (kH s)=S5 at *;generalize aY 115 32 200 (fZ s) (kH s)=B5 at *;generalize D5 99 32 s false=C at *;generalize D5 107 64 (lD s) (qY s)=K at *;generalize J8 112 1099511627776 (lC s) (qX s)=Pd at *;generalize decide (J8 102 1 (kZ s) (qW s)=1)=Fr at *;have hml:(L.map str).length=L.length:=llm _;by_cases hE0:P5 S5 B5=0
 rotate_left
 ·rw[dZ hE0,Bool.false_and,Bool.and_false];repeat' first|refine Yz ?_|intro _
  refine E9 ?_;exact vW
 rw[dT hE0,Bool.true_and];repeat' first|refine Yz ?_|intro _
 rename_i g2 gr g5;refine gM (g:=g5) (v':=.agg 5 [str C,str K,int Pd,j3 Fr,.sl 34 [] (some (.slice none 0 0))]) He ?_;refine O5 (fun ok w h=>h.full 289 34 none 0) ?_;refine z8 (α:=Nat × Value) (fun q=>[(2,ptr g2),(4,ptr gr),(5,ptr g5),(6,.sl 1 (L.map str) none),(7,int q.1)])
  (fun q=>[.tail 289 34 q.2,.var g5 269 (.agg 5 [str C,str K,int Pd,j3 Fr,.sl 34 (((L.take q.1).map fun t=>kU (aX t)).map H6) (some q.2)]),.var gr 169 (A9 S5 B5),.var g2 269 (.agg 5 [str [],str [],int 0,j3 false,P9])])
  (fun q=>q.1<=L.length/\(L.take q.1).all (kF C)=true) (fun q=>L.length-q.1) (0,.slice none 0 0) ⟨rfl,rfl,rfl,rfl,rfl,trivial⟩ slr ⟨Nat.zero_le _,rfl⟩ ?_
 rintro⟨i,v⟩ ⟨h1,h2⟩;dsimp only at h1 h2 ⊢;repeat' first|refine Yz ?_|intro _
 refine o9 (fun hlt=>?_) (fun hlt=>?_)
 ·have hil:i<L.length:=om
  have ht:=hm L[i] (List.getElem_mem hil);have hml2:((L.take i).map fun t=>kU (aX t)).length<=32:=by simp;omega
  repeat' first|refine Yz ?_|intro _
  by_cases he:qL L[i]=0
  rotate_left
  ·rw[OD hil (show kF C L[i]=false by unfold kF;rw[dZ he];rfl),Bool.false_and];repeat' first|refine Yz ?_|intro _
   refine E9 ?_;exact vW
  by_cases hcc:(aX L[i]).c=C
  rotate_left
  ·rw[OD hil (show kF C L[i]=false by unfold kF;rw[dZ hcc,Bool.and_false]),Bool.false_and];repeat' first|refine Yz ?_|intro _
   rw[dT (show (aX L[i]).c≠C from hcc)];repeat' first|refine Yz ?_|intro _
   refine E9 ?_;exact vW
  ·repeat' first|refine Yz ?_|intro _
   rw[dZ (show ¬ (aX L[i]).c≠C from fun h=>h hcc)];repeat' first|refine Yz ?_|intro _
   refine I4 (fun v'=>?_);repeat' first|refine Yz ?_|intro _
   refine o6 (i+1,v') ⟨rfl,rfl,rfl,rfl,rfl,trivial⟩ ?_ ⟨hil,Po hil h2 (by unfold kF;rw[dT he,dT hcc];rfl)⟩ (by dsimp only;omega);dsimp only;rw[List.take_succ_eq_append_getElem hil,List.map_append,List.map_append];exact List.Sublist.cons _ slr
 ·obtain rfl:i=L.length:=by omega
  rw[List.take_length] at h2 ⊢;rw[h2,Bool.true_and];repeat' first|refine Yz ?_|intro _
  cases hmc:aN ⟨C,K,Pd,Fr,L.map fun t=>kU (aX t)⟩
  ·repeat' first|refine Yz ?_|intro _
   refine E9 ?_;exact vW
  ·repeat' first|refine Yz ?_|intro _
   refine E9 ?_;exact Hg⟩
end Go.Proofs.YtocpacdnjbjjmaaGreatDoor
