/- . -/
import Derived.Test.YtjhnaegpchadiaaGreatDoorN24
set_option maxHeartbeats 64000000
namespace Go.Proofs.YtjhnaegpchadiaaGreatDoor
open Go Go.RowKit Tw Av Go.Proofs.Tryz
theorem NZ {a:Sta}{h t:Int}{r:Hsh}:(decide (a.h=h)&&(decide (a.t=t)&&(decide (a.r=r)&&true)))=decide (a=⟨h,t,r⟩):=by
 rw[Bool.eq_iff_iff];simp only[Bool.and_eq_true,decide_eq_true_eq,and_true]
 constructor
 ·rintro⟨h1,h2,h3⟩;cases a
  simp_all
 ·rintro rfl;exact⟨rfl,rfl,rfl⟩
theorem SF {n:Int}:Imp (.tup [.agg 5 [str [],str [],int 0,j3 false,A7],int n]) (.tup [kZ mM,int n]):=(ImpR.imp:Imp _ (.tup [.agg 5 [str [],str [],int 0,j3 false,.sl 34 [] none],int n]))
theorem xU {c k:Bs}{p:Int}{f:Bool}{l:List Sta}{id:Option Value}{n:Int}:Imp (.tup [.agg 5 [str c,str k,int p,j3 f,.sl 34 (l.map D7) id],int n]) (.tup [kZ ⟨c,k,p,f,l⟩,int n]):=(ImpR.imp:Imp _ (.tup [.agg 5 [str c,str k,int p,j3 f,.sl 34 (l.map D7) none],int n]))
theorem FE {c k:Bs}{p:Int}{f:Bool}{l:List Sta}{id:Option Value}:Imp (.agg 5 [str c,str k,int p,j3 f,.sl 34 (l.map D7) id]) (kZ ⟨c,k,p,f,l⟩):=(ImpR.imp:Imp _ (.agg 5 [str c,str k,int p,j3 f,.sl 34 (l.map D7) none]))
instance b2x {c k:Bs}{p:Int}{f:Bool}{l:List Sta}{xs:List AV}{id:Option Value}[hx:Stas xs l]:Ans prog GL 441 [.agg 5 [str c,str k,int p,j3 f,.sl 34 xs id]] True (j3 (V6 ⟨c,k,p,f,l⟩)):=⟨fun _=>by
 have h:=hx.out;subst h;have hm:(l.map D7).length=l.length:=llm _;refine qF func441 ntmps441 fun _ hs=>?_;refine GV 0 4 (fun hb=>?_);have hb:=tL hb;by_cases hok:(1<=c.length/\c.length<=32)/\k.length<=64/\1<=p/\p<=1099511627776/\1<=l.length/\l.length<=32
 ·obtain⟨⟨h0,h00⟩,h1,h2,h3,h4,h5⟩:=hok;repeat' first|refine Zz ?_|intro _
  rename_i g1;refine y5 (α:=Nat) (fun i=>[(1,ptr g1),(3,int i)]) (fun i=>[.var g1 89 (.agg 5 [str c,str k,int p,j3 f,.sl 34 (l.map D7) id])])
   (fun i=>i<=l.length/\∀ j,j<i->kX c l j=true) (fun i=>l.length-i) 0 ⟨rfl,rfl,trivial⟩ slr ⟨Nat.zero_le _,fun _ h=>absurd h om⟩ ?_
  rintro i ⟨hi,hall⟩;repeat' first|refine Vz ?_|intro _
  refine o8 (fun hlt=>?_) (fun hlt=>?_)
  ·have hil:i<l.length:=om
   have hat:=RL (c:=c) hil;repeat' first|refine Vz ?_|intro _
   cases hc:Q4 ⟨c,l[i].h,l[i].t,l[i].r⟩
   ·rw[hc,Bool.false_and] at hat;repeat' first|refine Vz ?_|intro _
    refine d9 ?_;rw[zY (x:=⟨c,k,p,f,l⟩) hil hat];rfl
   rw[hc,Bool.true_and] at hat;rcases i with _|i
   ·have h0:∀ j,j<1->kX c l j=true:=fun j hj=>by
     obtain rfl:j=0:=by omega
     rw[hat];rfl
    repeat' first|refine Vz ?_|intro _
    refine o6 1 ⟨rfl,rfl,trivial⟩ ?_ ⟨hil,h0⟩ om;exact x9
   ·have hil2:i<l.length:=om
    have hg2:l.getD (i+1-1) Q7=l[i]:=by simp[List.getD,hil2]
    rw[hg2,dZ om,Bool.false_or] at hat;repeat' first|refine Vz ?_|intro _
    rw[dT (show (0:Int)<((i+1:Nat):Int) by omega)];repeat' first|refine Vz ?_|intro _
    rw[show (((i+1:Nat):Int)-1)=(i:Int) by omega];repeat' first|refine Vz ?_|intro _
    by_cases hq:l[i+1].h<=l[i].h
    ·have hf:Y2 l[i] l[i+1]=false:=by simp[Y2];omega
     rw[dT hq];repeat' first|refine Vz ?_|intro _
     refine d9 ?_;rw[zY (x:=⟨c,k,p,f,l⟩) hil (hat.trans hf)];rfl
    ·rw[dZ hq];repeat' first|refine Vz ?_|intro _
     rw[show (((i+1:Nat):Int)-1)=(i:Int) by omega];repeat' first|refine Vz ?_|intro _
     refine o8 (fun hh=>?_) (fun hh=>?_)
     ·have hf:Y2 l[i] l[i+1]=false:=by simp[Y2];omega
      repeat' first|refine Vz ?_|intro _
      refine d9 ?_;rw[zY (x:=⟨c,k,p,f,l⟩) hil (hat.trans hf)];rfl
     ·have hf:Y2 l[i] l[i+1]=true:=by simp[Y2];omega
      repeat' first|refine Vz ?_|intro _
      refine o6 (i+2) ⟨rfl,rfl,trivial⟩ ?_ ⟨hil,fun j hj=>?_⟩ om
      ·exact x9
      rcases Nat.lt_or_ge j (i+1) with h6|h6
      ·exact hall j h6
      ·obtain rfl:j=i+1:=by omega
       exact hat.trans hf
  ·obtain rfl:i=l.length:=by omega
   repeat' first|refine Vz ?_|intro _
   refine d9 ?_;rw[Cu ⟨h1,h2,h3,h4,h5⟩ hall];rfl
 ·have hmay:V6 ⟨c,k,p,f,l⟩=false:=by
   by_cases h0:k.length<=64/\1<=p/\p<=1099511627776/\1<=l.length/\l.length<=32
   ·refine zY (x:=⟨c,k,p,f,l⟩) (i:=0) h0.2.2.2.1 ?_;have hc:Q4 ⟨c,(l[0]'h0.2.2.2.1).h,(l[0]'h0.2.2.2.1).t,(l[0]'h0.2.2.2.1).r⟩=false:=by
     unfold Q4;rw[decide_eq_false_iff_not];rintro⟨e1,e2,_⟩;exact hok ⟨⟨e1,e2⟩,h0⟩
    rw[RL h0.2.2.2.1,hc,Bool.false_and]
   ·exact Cv h0
  rw[hmay];repeat' first|refine Vz ?_|intro _
  refine Y9 (fun h=>?_) (fun h4=>?_)
  ·repeat' first|refine Vz ?_|intro _
   exact d9 rfl
  repeat' first|refine Vz ?_|intro _
  refine Y9 (fun h=>?_) (fun h5=>?_)
  ·repeat' first|refine Vz ?_|intro _
   exact d9 rfl
  repeat' first|refine Vz ?_|intro _
  refine Y9 (fun h=>?_) (fun h6=>?_)
  ·repeat' first|refine Vz ?_|intro _
   exact d9 rfl
  repeat' first|refine Vz ?_|intro _
  refine Y9 (fun h=>?_) (fun h7=>?_)
  ·repeat' first|refine Vz ?_|intro _
   exact d9 rfl
  repeat' first|refine Vz ?_|intro _
  refine Y9 (fun h=>?_) (fun h8=>?_)
  ·repeat' first|refine Vz ?_|intro _
   exact d9 rfl
  repeat' first|refine Vz ?_|intro _
  refine Y9 (fun h=>?_) (fun h9=>?_)
  ·repeat' first|refine Vz ?_|intro _
   exact d9 rfl
  repeat' first|refine Vz ?_|intro _
  refine sD ?_;repeat' first|refine Vz ?_|intro _
  exact d9 rfl⟩
instance b4i {k c:Bs}{p h t:Int}{r:Hsh}:Ans prog GL 168 [str k,int p,.agg 35 [str c,int h,int t,hA r]] True (.tup [kZ (pY k p ⟨c,h,t,r⟩),int (qB k p ⟨c,h,t,r⟩)]):=⟨fun _=>by
 refine qF func168 ntmps168 fun _ hs=>?_;unfold pY qB;cases hm:V6 (wG k p ⟨c,h,t,r⟩)
 all_goals
  repeat' first|refine Vz ?_|intro _
  rw[show V6 ⟨c,k,p,false,[⟨h,t,r⟩]⟩=_ from hm];repeat' first|refine Vz ?_|intro _
  refine E5 ?_
 ·exact SF
 ·exact xU (c:=c) (k:=k) (p:=p) (f:=false) (l:=[⟨h,t,r⟩]) (id:=none) (n:=0)⟩
instance b2w {k c:Bs}{p h t:Int}{r:Hsh}:Ans prog GL 402 [str k,int p,.agg 35 [str c,int h,int t,hA r]] True (.tup [kZ (pY k p ⟨c,h,t,r⟩),int (qB k p ⟨c,h,t,r⟩)]):=⟨fun _=>by
 refine qF func402 ntmps402 fun _ hs=>?_;unfold pY qB;cases hm:V6 (wG k p ⟨c,h,t,r⟩)
 all_goals
  repeat' first|refine Vz ?_|intro _
  rw[show V6 ⟨c,k,p,false,[⟨h,t,r⟩]⟩=_ from hm];repeat' first|refine Vz ?_|intro _
  refine E5 ?_
 ·exact SF
 ·exact xU (c:=c) (k:=k) (p:=p) (f:=false) (l:=[⟨h,t,r⟩]) (id:=none) (n:=0)⟩

theorem Um {x:Cli}{s:Sta}(h:bE x.l s.h=true)(he:x.l.getD (F9 x.l s.h) Q7=s):gW x s=x:=by
 unfold gW;rw[if_pos ⟨h,he⟩]
theorem Us {x:Cli}{s:Sta}(h:bE x.l s.h=true)(he:x.l.getD (F9 x.l s.h) Q7≠s):gW x s=FI x:=by
 unfold gW;rw[if_neg (fun hh=>he hh.2),if_pos (.inl h)]
theorem Ur {x:Cli}{s:Sta}(h:bE x.l s.h=false)(hb:fF x.l s (F9 x.l s.h)=true):gW x s=FI x:=by
 unfold gW;rw[if_neg (by rw[h];simp),if_pos (.inr hb)]
theorem Uq {x:Cli}{s:Sta}(h:bE x.l s.h=false)(hb:fF x.l s (F9 x.l s.h)=false):gW x s={ x with l:=uS x.l s }:=by
 unfold gW;rw[if_neg (by rw[h];simp),if_neg (by rw[h,hb];simp)]
theorem a4h {l:List Sta}{s:Sta}:fF l s 0=(decide (0<l.length) && !Y2 s (l.getD 0 Q7)):=by simp[fF]
theorem a4f {l:List Sta}{s:Sta}{i:Nat}(hi:i<l.length):fF l s (i+1)=(!Y2 l[i] s || (decide (i+1<l.length) && !Y2 s (l.getD (i+1) Q7))):=by
 have:l.getD (i+1-1) Q7=l[i]:=by simp[List.getD,hi]
 unfold fF;rw[this];simp
instance b5C {c k:Bs}{p h t:Int}{f:Bool}{r:Hsh}{l:List Sta}{xs:List AV}{id:Option Value}[hx:Stas xs l]:Ans prog GL 266 [.agg 5 [str c,str k,int p,j3 f,.sl 34 xs id],.agg 34 [int h,int t,hA r]] (l.length<=1000000) (kZ (gW ⟨c,k,p,f,l⟩ ⟨h,t,r⟩)):=⟨fun hlen=>by
 have hxo:=hx.out;subst hxo;have hm:(l.map D7).length=l.length:=llm _;have hle:=GA l h;refine qF func266 ntmps266 fun _ hs=>?_;repeat' (first|refine bK ?_|refine O3 ?_|refine U0 ?_|refine M7 ?_|intro _)
 cases his:bE l h
 ·refine BF hs ?_;repeat' (first|refine bK ?_|refine O3 ?_|refine U0 ?_|refine M7 ?_|refine rQ ?_|refine lV ?_|refine y7 (fun _=>?_)|intro _)
  rename_i g2 g3 g4;refine yY (α:=Unit) (fun _=>[(2,ptr g2),(3,ptr g3),(4,ptr g4),(5,int (F9 l h)),(26,j3 (fF l ⟨h,t,r⟩ (F9 l h)))]) (fun _=>[.var g4 89 (.agg 5 [str [],str [],int 0,j3 false,A7]),.var g3 93 (D7 ⟨h,t,r⟩),.var g2 89 (.agg 5 [str c,str k,int p,j3 f,.sl 34 (l.map D7) id])]) ?_ (fun _=>?_)
  ·generalize F9 l h=i at *;rcases i with _|i
   ·rw[a4h];repeat' first|refine Vz ?_|intro _
    by_cases hlt:0<l.length
    ·have hg:l.getD 0 Q7=l[0]:=by simp[List.getD,hlt]
     rw[dT (show ((0:Nat):Int)<((l.map D7).length:Int) by omega)];repeat' first|refine Vz ?_|intro _
     exact X7 () ⟨rfl,rfl,rfl,rfl,by rw[dT hlt,hg];rfl,trivial⟩ slr
    ·rw[dZ (show ¬ ((0:Nat):Int)<((l.map D7).length:Int) by omega)];repeat' first|refine Vz ?_|intro _
     exact X7 () ⟨rfl,rfl,rfl,rfl,by rw[dZ hlt];rfl,trivial⟩ slr
   ·have hil:i<l.length:=om
    rw[a4f hil];repeat' first|refine Vz ?_|intro _
    rw[dT (show (0:Int)<((i+1:Nat):Int) by omega)];repeat' first|refine Vz ?_|intro _
    rw[show (((i+1:Nat):Int)-1)=(i:Int) by omega];repeat' first|refine Vz ?_|intro _
    cases hf:Y2 l[i] ⟨h,t,r⟩
    ·repeat' first|refine Vz ?_|intro _
     exact X7 () ⟨rfl,rfl,rfl,rfl,rfl,trivial⟩ slr
    ·repeat' first|refine Vz ?_|intro _
     by_cases hlt:i+1<l.length
     ·rw[dT (show ((i+1:Nat):Int)<((l.map D7).length:Int) by omega)];repeat' first|refine Vz ?_|intro _
      have hg:l.getD (i+1) Q7=l[i+1]:=by simp[List.getD,hlt]
      exact X7 () ⟨rfl,rfl,rfl,rfl,by rw[dT hlt,hg];rfl,trivial⟩ slr
     ·rw[dZ (show ¬ ((i+1:Nat):Int)<((l.map D7).length:Int) by omega)];repeat' first|refine Vz ?_|intro _
      exact X7 () ⟨rfl,rfl,rfl,rfl,by rw[dZ hlt];rfl,trivial⟩ slr
  ·cases hbad:fF l ⟨h,t,r⟩ (F9 l h)
   ·repeat' (first|refine bK ?_|refine O3 ?_|refine U0 ?_|refine M7 ?_|refine rQ ?_|refine lV ?_|refine y7 (fun _=>?_)|intro _)
    refine xB [0,1,3,4,5,2,6,7,8] kr rfl hs kr ?_;repeat' (first|refine bK ?_|refine O3 ?_|refine U0 ?_|refine M7 ?_|refine rQ ?_|refine lV ?_|refine y7 (fun _=>?_)|intro _)
    have hL:(l.take (F9 l h)++⟨h,t,r⟩::l.drop (F9 l h)).length=l.length+1:=by simp;omega
    have hmap:(l.map D7).take (F9 l h)++D7 ⟨h,t,r⟩::(l.map D7).drop (F9 l h)=(l.take (F9 l h)++⟨h,t,r⟩::l.drop (F9 l h)).map D7:=sm
    have hend:gW ⟨c,k,p,f,l⟩ ⟨h,t,r⟩=⟨c,k,p,f,(l.take (F9 l h)++⟨h,t,r⟩::l.drop (F9 l h)).drop (l.length+1-32)⟩:=Uq his hbad;rw[hend];apply Y8 [];exact rfl;exact rfl;kernel_rfl;kernel_rfl;intro _ hs';refine I8 [] _ (by rw[hs'];exact a3f (xs:=l.map D7) (id:=id) (by rw[llm];omega)) (fun u m1 hh=>?_) lpr;rcases hh with⟨hnil,rfl,rfl⟩|⟨g,cap,rfl,rfl,hcap⟩
    ·obtain rfl:l=[]:=by simpa using hnil
     have hx1:([D7 ⟨h,t,r⟩]:List AV).length=1:=rfl;refine j4 (R6 [] [] rfl rfl lpr rfl ?_);apply Y8 [];exact rfl;exact rfl;kernel_rfl;kernel_rfl;intro _ hs';refine I8 [] _ (by rw[hs'];exact Zu (x:=D7 ⟨h,t,r⟩) (idv:=none)) (fun u m1 hh=>?_) lpr;rcases hh with⟨hnil,rfl,rfl⟩|⟨g,cap,rfl,rfl,hcap⟩
     ·simp at hnil
     ·refine vK 68 ?_;refine jL 68 Imp.sl ?_;refine j4 (R6 [] [.tail 93 34 _] rfl rfl lpr rfl ?_);repeat' first|refine Vz ?_|intro _
      refine uB 0 1 ?_;repeat' first|refine Vz ?_|intro _
      refine E5 ?_;exact FE (l:=[⟨h,t,r⟩])
    ·refine j4 (R6 [] [.buf g 93 34 (l.map D7) cap] rfl rfl lpr rfl ?_);apply Y8 [3];exact rfl;exact rfl;kernel_rfl;kernel_rfl;intro _ hs';refine I8 [.buf g 93 34 (l.map D7) cap] [] (by rw[hs'];exact Zt (i:=F9 l h) (x:=D7 ⟨h,t,r⟩) (idv:=none) rfl hcap (by rw[hm];exact hle) (by rw[hm];omega)) (fun u m1 hh=>?_) lpr;rw[hmap] at hh;rcases hh with⟨hnil,rfl,rfl⟩|⟨g,cap,rfl,rfl,hcap⟩
     ·simp at hnil
     ·refine vK 68 ?_;refine jL 68 Imp.sl ?_;refine j4 (R6 [.tail 93 34 _] [] rfl rfl lpr rfl ?_);have hL2:((l.take (F9 l h)++⟨h,t,r⟩::l.drop (F9 l h)).map D7).length=l.length+1:=by rw[llm,hL]
      repeat' first|refine Vz ?_|intro _
      refine uB (l.length+1-32) (l.length+1) ?_;rw[<- hL2,List.take_length,hL2,<- List.map_drop];repeat' first|refine Vz ?_|intro _
      refine E5 ?_;exact FE
   ·repeat' first|refine Vz ?_|intro _
    refine E5 ?_;rw[Ur his hbad];exact FE
 ·have hl:F9 l h<l.length:=by
   rcases Nat.lt_or_ge (F9 l h) l.length with h|h
   ·exact h
   ·rw[UZ om] at his;cases his
  have hg:l.getD (F9 l h) Q7=l[F9 l h]:=by simp[List.getD,hl]
  repeat' first|refine Vz ?_|intro _
  by_cases he:l[F9 l h]=⟨h,t,r⟩
  ·rw[NZ,dT he];repeat' first|refine Vz ?_|intro _
   refine E5 ?_;rw[Um his (hg.trans he)];exact FE
  ·rw[NZ,dZ he];repeat' first|refine Vz ?_|intro _
   refine E5 ?_;rw[Us his (by rw[hg];exact he)];exact FE⟩

theorem wJ {n:Int}{o:Cli}(h:o=mM):Imp (.tup [.agg 5 [str [],str [],int 0,j3 false,A7],int n]) (.tup [kZ o,int n]):=by rw[h];exact SF
structure CliOk (x:Cli):Prop where
 n:x.l.length<=1000000
 k:x.k.length<=1000000
 t:-4611686018427387904<=(dF x.l).t/\(dF x.l).t<=4611686018427387904
 p:-4611686018427387904<=x.p/\x.p<4611686018427387904
theorem WJ {x:Cli}{h:Hdr}{mac:Hsh}{now:Int}(e:jM x now=false):bM x h mac now=19/\gL x h mac now=mM:=by
 have:bM x h mac now=19:=by unfold bM;rw[if_pos e]
 exact⟨this,by unfold gL;rw[this];rfl⟩
theorem IE {x:Cli}{h:Hdr}{mac:Hsh}{now:Int}(e:jM x now=true)(e2:Q4 h=false\/h.c≠x.c):bM x h mac now=1/\gL x h mac now=mM:=by
 have:bM x h mac now=1:=by unfold bM;rw[if_neg (by rw[e];simp),if_pos e2]
 exact⟨this,by unfold gL;rw[this];rfl⟩
theorem WK {x:Cli}{h:Hdr}{mac:Hsh}{now:Int}(e:jM x now=true)(e2:Q4 h=true)(e3:h.c=x.c)(e4:J8 x.k h≠mac):bM x h mac now=18/\gL x h mac now=mM:=by
 have:bM x h mac now=18:=by unfold bM;rw[if_neg (by rw[e];simp),if_neg (by rw[e2,e3];simp),if_pos e4]
 exact⟨this,by unfold gL;rw[this];rfl⟩
theorem WL {x:Cli}{h:Hdr}{mac:Hsh}{now:Int}(e:jM x now=true)(e2:Q4 h=true)(e3:h.c=x.c)(e4:J8 x.k h=mac):bM x h mac now=0/\gL x h mac now=gW x (R7 h):=by
 have:bM x h mac now=0:=by unfold bM;rw[if_neg (by rw[e];simp),if_neg (by rw[e2,e3];simp),if_neg (by rw[e4];simp)]
 exact⟨this,by unfold gL;rw[this];rfl⟩
instance b1w {c k c':Bs}{p h t now:Int}{f:Bool}{r mac:Hsh}{l:List Sta}{xs:List AV}{id:Option Value}[hx:Stas xs l]:Ans prog GL 171 [.agg 5 [str c,str k,int p,j3 f,.sl 34 xs id],.agg 35 [str c',int h,int t,hA r],hA mac,int now] (CliOk ⟨c,k,p,f,l⟩/\h<=9223372036854775807/\t<=9223372036854775807) (.tup [kZ (gL ⟨c,k,p,f,l⟩ ⟨c',h,t,r⟩ mac now),int (bM ⟨c,k,p,f,l⟩ ⟨c',h,t,r⟩ mac now)]):=⟨fun hpre=>by
 obtain⟨⟨p1,p2,⟨p3,p4⟩,p5,p6⟩,p7,p8⟩:=hpre;dsimp only at p1 p2 p3 p4 p5 p6;have hxo:=hx.out;subst hxo;refine qF func171 ntmps171 fun _ hs=>?_;repeat' first|refine Vz ?_|intro _
 cases ha:jM ⟨c,k,p,f,l⟩ now
 ·obtain⟨e1,e2⟩:=WJ (h:=⟨c',h,t,r⟩) (mac:=mac) ha;rw[e1];repeat' first|refine Vz ?_|intro _
  refine E5 ?_;exact wJ e2
 repeat' first|refine Vz ?_|intro _
 cases hc:Q4 ⟨c',h,t,r⟩
 ·obtain⟨e1,e2⟩:=IE (mac:=mac) ha (.inl hc);rw[e1];repeat' first|refine Vz ?_|intro _
  refine E5 ?_;exact wJ e2
 repeat' first|refine Vz ?_|intro _
 by_cases hcc:c'≠c
 ·obtain⟨e1,e2⟩:=IE (h:=⟨c',h,t,r⟩) (mac:=mac) ha (.inr hcc);rw[e1,dT hcc];repeat' first|refine Vz ?_|intro _
  refine E5 ?_;exact wJ e2
 ·rw[dZ hcc];have hcc:c'=c:=Classical.not_not.1 hcc;repeat' first|refine Vz ?_|intro _
  by_cases hmac:J8 k ⟨c',h,t,r⟩≠mac
  ·obtain⟨e1,e2⟩:=WK (x:=⟨c,k,p,f,l⟩) ha hc hcc hmac;rw[e1,dZ (show ¬ J8 k ⟨c',h,t,r⟩=mac from hmac)];repeat' first|refine Vz ?_|intro _
   refine E5 ?_;exact wJ e2
  ·have hmac:J8 k ⟨c',h,t,r⟩=mac:=Classical.not_not.1 hmac;obtain⟨e1,e2⟩:=WL (x:=⟨c,k,p,f,l⟩) ha hc hcc hmac;rw[e1,dT hmac];repeat' first|refine Vz ?_|intro _
   refine d9 ?_;rw[e2];rfl⟩

theorem a0U {l:List Sta}{s:Sta}{i:Nat}{a:List Sta × Bool}(hi:i<l.length)(h:(l.take i).foldl (lI s) (some ([],false))=some a)(hh:fT s l[i]=true):xS l s=none:=by
 have:l.foldl (lI s) (some ([],false))=none:=by
  have e:l=l.take i++l[i]::l.drop (i+1):=by rw[<- List.drop_eq_getElem_cons hi,List.take_append_drop]
  rw[e,List.foldl_append,h,List.foldl_cons,DL,if_pos hh,FJ]
 unfold xS;rw[this]
theorem a0T {l:List Sta}{s:Sta}{i:Nat}{acc:List Sta}{put:Bool}(hi:i<l.length)(h:(l.take i).foldl (lI s) (some ([],false))=some (acc,put))(hh:fT s l[i]=false) :
  (l.take (i+1)).foldl (lI s) (some ([],false))=some (if put=false/\s.h<l[i].h then (acc++[s]++[l[i]],true) else (acc++[l[i]],put)):=by
 rw[List.take_succ_eq_append_getElem hi,List.foldl_append,h,List.foldl_cons,List.foldl_nil,DL,if_neg (by rw[hh];simp)];split <;> rfl
theorem Zx {l:List Sta}{s:Sta}{acc:List Sta}{put:Bool}(h:l.foldl (lI s) (some ([],false))=some (acc,put)):xS l s=some (if put=true then acc else acc++[s]):=by
 unfold xS;rw[h];cases put <;> rfl
instance b2f {c k c':Bs}{p h t now:Int}{f:Bool}{r mac:Hsh}{l:List Sta}{xs:List AV}{id:Option Value}[hx:Stas xs l]:Ans prog GL 398 [.agg 5 [str c,str k,int p,j3 f,.sl 34 xs id],.agg 35 [str c',int h,int t,hA r],hA mac,int now] (CliOk ⟨c,k,p,f,l⟩/\(Rise l/\l.length<=32)/\h<=9223372036854775807/\t<=9223372036854775807) (.tup [kZ (gL ⟨c,k,p,f,l⟩ ⟨c',h,t,r⟩ mac now),int (bM ⟨c,k,p,f,l⟩ ⟨c',h,t,r⟩ mac now)]):=⟨fun hpre=>by
 obtain⟨⟨p1,p2,⟨p3,p4⟩,p5,p6⟩,⟨hr,h32⟩,p7,p8⟩:=hpre;dsimp only at p1 p2 p3 p4 p5 p6;have hxo:=hx.out;subst hxo;have hm:(l.map D7).length=l.length:=llm _;refine qF func398 ntmps398 fun _ hs=>?_;repeat' first|refine Vz ?_|intro _
 cases ha:jM ⟨c,k,p,f,l⟩ now
 ·obtain⟨e1,e2⟩:=WJ (h:=⟨c',h,t,r⟩) (mac:=mac) ha;rw[e1];repeat' first|refine Vz ?_|intro _
  refine E5 ?_;exact wJ e2
 repeat' first|refine Vz ?_|intro _
 cases hc:Q4 ⟨c',h,t,r⟩
 ·obtain⟨e1,e2⟩:=IE (mac:=mac) ha (.inl hc);rw[e1];repeat' first|refine Vz ?_|intro _
  refine E5 ?_;exact wJ e2
 repeat' first|refine Vz ?_|intro _
 by_cases hcc:c'≠c
 ·obtain⟨e1,e2⟩:=IE (h:=⟨c',h,t,r⟩) (mac:=mac) ha (.inr hcc);rw[e1,dT hcc];repeat' first|refine Vz ?_|intro _
  refine E5 ?_;exact wJ e2
 rw[dZ hcc];have hcc:c'=c:=Classical.not_not.1 hcc;repeat' first|refine Vz ?_|intro _
 by_cases hmac:J8 k ⟨c',h,t,r⟩≠mac
 ·obtain⟨e1,e2⟩:=WK (x:=⟨c,k,p,f,l⟩) ha hc hcc hmac;rw[e1,dZ (show ¬ J8 k ⟨c',h,t,r⟩=mac from hmac)];repeat' first|refine Vz ?_|intro _
  refine E5 ?_;exact wJ e2
 have hmac:J8 k ⟨c',h,t,r⟩=mac:=Classical.not_not.1 hmac;obtain⟨e1,e2⟩:=WL (x:=⟨c,k,p,f,l⟩) ha hc hcc hmac;have e3:gL ⟨c,k,p,f,l⟩ ⟨c',h,t,r⟩ mac now=JW ⟨c,k,p,f,l⟩ ⟨h,t,r⟩:=e2.trans (Vd hr h32).symm;rw[e1,e3,dT hmac];clear e1 e2 e3 p3 p4 p5 p6 p7 p8 ha hc hmac;unfold JW;repeat' first|refine Vz ?_|intro _
 cases hfd:rX l h with
 | some o=>
  simp only[Option.getD_some,Option.isSome_some];repeat' first|refine Vz ?_|intro _
  rw[NZ (a:=o)];by_cases ho:o=⟨h,t,r⟩
  ·rw[dT ho,if_pos ho];repeat' first|refine Vz ?_|intro _
   refine E5 ?_;exact xU
  ·rw[dZ ho,if_neg ho];repeat' first|refine Vz ?_|intro _
   refine E5 ?_;exact xU
 | none=>
  simp only[Option.getD_none,Option.isSome_none];repeat' first|refine Vz ?_|intro _
  rename_i g4 g5 g6 g8 hcc0 g12 g13 g15;refine aT 16 (Imp.nil (k:=34)) ?_;refine Q6 (fun ok w h=>h.full 93 34 none 0) ?_;have hcl0:∀ {put:Bool} {a b:List Sta},(if put=true then a else b).length<=max a.length b.length:=by
   intro put a b;cases put <;> simp <;> omega
  refine y5 (α:=Nat × Value × List Sta × Bool) (fun q=>[(4,ptr g4),(8,ptr g8),(12,ptr g12),(15,ptr g15),(16,.sl 34 (q.2.2.1.map D7) (some q.2.1)),(17,j3 q.2.2.2),(18,int q.1)])
   (fun q=>[.tail 93 34 q.2.1,.var g15 89 (.agg 5 [str c,str k,int p,j3 true,.sl 34 (l.map D7) id]),.var g12 93 (.agg 34 [int h,int t,hA r]),.var g8 89 (.agg 5 [str [],str [],int 0,j3 false,A7]),.var g4 89 (.agg 5 [str c,str k,int p,j3 f,.sl 34 (l.map D7) id])])
   (fun q=>q.1<=l.length/\(l.take q.1).foldl (lI ⟨h,t,r⟩) (some ([],false))=some (q.2.2.1,q.2.2.2)/\q.2.2.1.length<=2*q.1) (fun q=>l.length-q.1) (0,.slice none 0 0,[],false) ⟨rfl,rfl,rfl,rfl,rfl,rfl,rfl,trivial⟩ ?_ ⟨Nat.zero_le _,rfl,Nat.zero_le _⟩ ?_
  ·exact x9
  rintro⟨i,v,acc,put⟩ ⟨hi,hfo,hal⟩;dsimp only at hi hfo hal ⊢;have hmacc:(acc.map D7).length=acc.length:=llm _;repeat' first|refine Vz ?_|intro _
  refine o8 (fun hlt=>?_) (fun hlt=>?_)
  ·have hil:i<l.length:=om
   have hnx:=fun hh=>a0T hil hfo hh;repeat' first|refine Vz ?_|intro _
   rename_i g19;by_cases hhit:fT ⟨h,t,r⟩ l[i]=true
   ·have hno:=a0U hil hfo hhit;rw[hno];simp[fT] at hhit;rcases hhit with⟨a1,a2⟩|⟨a1,a2⟩
    all_goals
     repeat' first|refine Zz ?_|intro _
     refine E5 ?_;exact xU (f:=true)
   ·have hhit:fT ⟨h,t,r⟩ l[i]=false:=by simpa using hhit
    have hnx:=hnx hhit;simp[fT] at hhit;have hone:(acc++[l[i]]).map D7=acc.map D7++[D7 l[i]]:=by simp
    have htwo:(acc++[(⟨h,t,r⟩:Sta)]++[l[i]]).map D7=acc.map D7++[D7 ⟨h,t,r⟩]++[D7 l[i]]:=sm
    cases put
    ·by_cases a1:h<l[i].h
     ·rw[if_pos ⟨rfl,a1⟩] at hnx;repeat' first|refine Zz ?_|intro _
      refine I1 (fun v1=>?_);repeat' first|refine Zz ?_|intro _
      refine I1 (fun v2=>?_);repeat' first|refine Zz ?_|intro _
      refine aR 16 (v':=.sl 34 ((acc++[(⟨h,t,r⟩:Sta)]++[l[i]]).map D7) (some v2)) (Imp.of_eq (by rw[htwo])) ?_;refine o6 (i+1,v2,acc++[(⟨h,t,r⟩:Sta)]++[l[i]],true) ⟨rfl,rfl,rfl,rfl,rfl,rfl,rfl,trivial⟩ ?_ ⟨hil,hnx,by simp;omega⟩ (by dsimp only;omega);exact x9
     ·rw[if_neg (fun hh=>a1 hh.2)] at hnx;by_cases a2:l[i].h<h
      all_goals
       repeat' first|refine Zz ?_|intro _
       refine I1 (fun v2=>?_);repeat' first|refine Zz ?_|intro _
       refine aR 16 (v':=.sl 34 ((acc++[l[i]]).map D7) (some v2)) (Imp.of_eq (by rw[hone])) ?_;refine o6 (i+1,v2,acc++[l[i]],false) ⟨rfl,rfl,rfl,rfl,rfl,rfl,rfl,trivial⟩ ?_ ⟨hil,hnx,by simp;omega⟩ (by dsimp only;omega);exact x9
    ·rw[if_neg (fun hh=>by cases hh.1)] at hnx;by_cases a1:h<l[i].h
     ·repeat' first|refine Zz ?_|intro _
      refine I1 (fun v2=>?_);repeat' first|refine Zz ?_|intro _
      refine aR 16 (v':=.sl 34 ((acc++[l[i]]).map D7) (some v2)) (Imp.of_eq (by rw[hone])) ?_;refine o6 (i+1,v2,acc++[l[i]],true) ⟨rfl,rfl,rfl,rfl,rfl,rfl,rfl,trivial⟩ ?_ ⟨hil,hnx,by simp;omega⟩ (by dsimp only;omega);exact x9
     ·by_cases a2:l[i].h<h
      all_goals
       repeat' first|refine Zz ?_|intro _
       refine I1 (fun v2=>?_);repeat' first|refine Zz ?_|intro _
       refine aR 16 (v':=.sl 34 ((acc++[l[i]]).map D7) (some v2)) (Imp.of_eq (by rw[hone])) ?_;refine o6 (i+1,v2,acc++[l[i]],true) ⟨rfl,rfl,rfl,rfl,rfl,rfl,rfl,trivial⟩ ?_ ⟨hil,hnx,by simp;omega⟩ (by dsimp only;omega);exact x9
  ·obtain rfl:i=l.length:=by omega
   rw[List.take_length] at hfo;rw[Zx hfo];repeat' first|refine Vz ?_|intro _
   have hone:(acc++[(⟨h,t,r⟩:Sta)]).map D7=acc.map D7++[D7 ⟨h,t,r⟩]:=sm
   refine yY (α:=Value) (fun v=>[(4,ptr g4),(8,ptr g8),(16,.sl 34 ((if put=true then acc else acc++[(⟨h,t,r⟩:Sta)]).map D7) (some v))]) (fun _=>[.var g8 89 (.agg 5 [str [],str [],int 0,j3 false,A7]),.var g4 89 (.agg 5 [str c,str k,int p,j3 f,.sl 34 (l.map D7) id])]) ?_ (fun v=>?_)
   ·cases put
    ·repeat' first|refine Vz ?_|intro _
     refine I1 (fun v2=>?_);repeat' first|refine Vz ?_|intro _
     refine X7 v2 ⟨rfl,rfl,by rw[<- hone];rfl,trivial⟩ ?_;exact x9
    ·repeat' first|refine Vz ?_|intro _
     refine X7 v ⟨rfl,rfl,rfl,trivial⟩ ?_;exact x9
   ·have hle:(if put=true then acc else acc++[(⟨h,t,r⟩:Sta)]).length<=66:=by
     cases put <;> simp <;> omega
    generalize (if put=true then acc else acc++[(⟨h,t,r⟩:Sta)])=L at *;have hmL:(L.map D7).length=L.length:=llm _;simp only[TY];repeat' first|refine Vz ?_|intro _
    refine o8 (fun h9=>?_) (fun h9=>?_)
    ·rw[if_pos (show 32<L.length by omega)];repeat' first|refine Vz ?_|intro _
     refine uB 1 L.length ?_;rw[<- hmL,List.take_length,<- List.map_drop];repeat' first|refine Vz ?_|intro _
     refine E5 ?_;exact xU
    ·rw[if_neg (show ¬ 32<L.length by omega)];repeat' first|refine Vz ?_|intro _
     refine E5 ?_;exact xU⟩

def iV (s:Bs):Bs:=j5 99 32 s false
def nG (s:Bs):Bool:=z8 99 32 s false
def iU (s:Bs):Bs:=j5 104 8 (iV s) (nG s)
def nE (s:Bs):Bool:=K8 104 1099511627776 (iV s) (nG s)
def cK (s:Bs):Bs:=j5 116 8 (iU s) (nE s)
def gU (s:Bs):Bool:=K8 116 1099511627776 (iU s) (nE s)
def zL (s:Bs):Bs:=D8 114 32 (cK s) (gU s)
def xH (s:Bs):Int:=R3 (j5 114 32 (cK s) (gU s)) (z8 114 32 (cK s) (gU s))
def vX (s:Bs):Hdr:=⟨D8 99 32 s false,K3 104 1099511627776 (iV s) (nG s),K3 116 1099511627776 (iU s) (nE s),R9 (zL s)⟩
def jT (s:Bs):Bool:=decide ((zL s).length=32)&&(decide (xH s=0)&&Q4 (vX s))
def NA:Hdr:=⟨[],0,0,F3⟩
def Y5 (s:Bs):Hdr:=if jT s=true then vX s else NA
def nD (s:Bs):Int:=if jT s=true then 0 else 10
theorem ZK (s:Bs):(iV s).length<=s.length/\(iU s).length<=s.length/\(cK s).length<=s.length:=by
 have h1:=(X5 99 32 s false).1;have h2:=(X5 104 8 (iV s) (nG s)).1;have h3:=(X5 116 8 (iU s) (nE s)).1;unfold cK;unfold iU at *;unfold iV at *;exact⟨h1,om,om⟩
theorem ZY {s:Bs}:j5 99 32 s false=iV s:=rfl
theorem ZX {s:Bs}:z8 99 32 s false=nG s:=rfl
theorem ZW {s:Bs}:j5 104 8 (iV s) (nG s)=iU s:=rfl
theorem ZV {s:Bs}:K8 104 1099511627776 (iV s) (nG s)=nE s:=rfl
theorem ZU {s:Bs}:j5 116 8 (iU s) (nE s)=cK s:=rfl
theorem ZT {s:Bs}:K8 116 1099511627776 (iU s) (nE s)=gU s:=rfl
instance b1Z {s:Bs}:Ans prog GL 158 [str s] (s.length<=1000000000) (.tup [V8 (Y5 s),int (nD s)]):=⟨fun hl=>by
 obtain⟨l1,l2,l3⟩:=ZK s;have e1:(iV s).length=(j5 99 32 s false).length:=rfl;have e2:(iU s).length=(j5 104 8 (j5 99 32 s false) (z8 99 32 s false)).length:=rfl;have e3:(cK s).length=(j5 116 8 (j5 104 8 (j5 99 32 s false) (z8 99 32 s false)) (K8 104 1099511627776 (j5 99 32 s false) (z8 99 32 s false))).length:=rfl;refine qF func158 ntmps158 fun _ hs=>?_;repeat' first|refine Yz ?_|intro _
 refine I8 (args:=[str s]) [] _ (by rw[hs];exact sP) (fun u m1 hh=>?_) lpr;obtain⟨gr,rfl,rfl⟩:=hh;repeat' first|refine Yz ?_|intro _
 rw[ZY,ZX,ZW,ZV,ZU,ZT];have hX:zL s=D8 114 32 (cK s) (gU s):=rfl;have hV:vX s=⟨D8 99 32 s false,K3 104 1099511627776 (iV s) (nG s),K3 116 1099511627776 (iU s) (nE s),R9 (D8 114 32 (cK s) (gU s))⟩:=rfl;have hEE:xH s=R3 (j5 114 32 (cK s) (gU s)) (z8 114 32 (cK s) (gU s)):=rfl;by_cases hx:(D8 114 32 (cK s) (gU s)).length=32
 rotate_left
 ·have hk:jT s=false:=by
   unfold jT;rw[hX,dZ hx];rfl
  rw[Y5,nD,hk,if_neg hx];repeat' first|refine Yz ?_|intro _
  exact d9 rfl
 rw[if_pos hx];repeat' first|refine Yz ?_|intro _
 by_cases hE:xH s=0
 rotate_left
 ·have hk:jT s=false:=by
   unfold jT;rw[dZ hE,Bool.false_and,Bool.and_false]
  rw[Y5,nD,hk];rw[hEE] at hE;repeat' first|refine Yz ?_|intro _
  exact d9 rfl
 have hk:jT s=Q4 (vX s):=by
  unfold jT;rw[hX,dT hx,dT hE,Bool.true_and,Bool.true_and]
 rw[Y5,nD,hk,hV];rw[hEE] at hE;repeat' first|refine Yz ?_|intro _
 cases hc:Q4 ⟨D8 99 32 s false,K3 104 1099511627776 (iV s) (nG s),K3 116 1099511627776 (iU s) (nE s),R9 (D8 114 32 (cK s) (gU s))⟩
 ·repeat' first|refine Yz ?_|intro _
  exact d9 rfl
 ·repeat' first|refine Yz ?_|intro _
  exact d9 rfl⟩

instance b2m {s:Bs}:Ans prog GL 460 [str s] (s.length<=1000000000) (.tup [V8 (Y5 s),int (nD s)]):=⟨fun hl=>by
 obtain⟨l1,l2,l3⟩:=ZK s;have e1:(iV s).length=(j5 99 32 s false).length:=rfl;have e2:(iU s).length=(j5 104 8 (j5 99 32 s false) (z8 99 32 s false)).length:=rfl;have e3:(cK s).length=(j5 116 8 (j5 104 8 (j5 99 32 s false) (z8 99 32 s false)) (K8 104 1099511627776 (j5 99 32 s false) (z8 99 32 s false))).length:=rfl;refine qF func460 ntmps460 fun _ hs=>?_;repeat' first|refine Yz ?_|intro _
 rw[ZY,ZX,ZW,ZV,ZU,ZT];have hX:zL s=D8 114 32 (cK s) (gU s):=rfl;have hV:vX s=⟨D8 99 32 s false,K3 104 1099511627776 (iV s) (nG s),K3 116 1099511627776 (iU s) (nE s),R9 (D8 114 32 (cK s) (gU s))⟩:=rfl;have hEE:xH s=R3 (j5 114 32 (cK s) (gU s)) (z8 114 32 (cK s) (gU s)):=rfl;by_cases hE:xH s=0
 rotate_left
 ·have hk:jT s=false:=by
   unfold jT;rw[dZ hE,Bool.false_and,Bool.and_false]
  rw[Y5,nD,hk];rw[hEE] at hE;repeat' first|refine Yz ?_|intro _
  exact d9 rfl
 by_cases hx:(D8 114 32 (cK s) (gU s)).length=32
 rotate_left
 ·have hk:jT s=false:=by
   unfold jT;rw[hX,dZ hx];rfl
  rw[Y5,nD,hk];rw[hEE] at hE;repeat' first|refine Yz ?_|intro _
  exact d9 rfl
 have hk:jT s=Q4 (vX s):=by
  unfold jT;rw[hX,dT hx,dT hE,Bool.true_and,Bool.true_and]
 rw[Y5,nD,hk,hV];rw[hEE] at hE;repeat' first|refine Yz ?_|intro _
 generalize D8 114 32 (cK s) (gU s)=x at *;generalize D8 99 32 s false=C at *;generalize K3 104 1099511627776 (iV s) (nG s)=H at *;generalize K3 116 1099511627776 (iU s) (nE s)=T at *;rename_i g2 gr g5;refine y5 (α:=Nat) (fun i=>[(2,ptr g2),(5,ptr g5),(6,str x),(7,int i)]) (fun i=>[.var g5 36 (.agg 35 [str C,int H,int T,.agg 32 ((eG x i).map w9)]),.var g2 36 (V8 NA)]) (fun i=>i<=32) (fun i=>32-i) 0 ⟨rfl,rfl,rfl,rfl,trivial⟩ ?_ (Nat.zero_le _) ?_
 focus
  exact x9
 intro i hi;repeat' first|refine Yz ?_|intro _
 refine o8 (fun hlt=>?_) (fun hlt=>?_)
 ·have hil:i<32:=om
  have hix:i<x.length:=om
  repeat' first|refine Yz ?_|intro _
  refine sH i ?_ (List.getElem?_eq_getElem hix);repeat' first|refine Yz ?_|intro _
  refine O4 i ?_;have hst:=Ut (n:=35) (pre:=[str C,int H,int T]) (post:=[]) (l:=eG x i) (j:=i) (c:=x[i]) (KX hx hi) (by rw[KX hx hi];exact hil) (o:=0+3+i*1) (by simp[AV.size]);rw[RU hx hil] at hst;refine bG (v':=.agg 35 [str C,int H,int T,.agg 32 ((eG x (i+1)).map w9)]) ?_ (hp:=hst);repeat' first|refine Yz ?_|intro _
  exact o6 (i+1) ⟨rfl,rfl,rfl,rfl,trivial⟩ slr hil om
 ·obtain rfl:i=32:=by omega
  have hA1:AV.agg 32 ((eG x 32).map w9)=hA (R9 x):=by rw[RX hx,hA,LC hx]
  rw[hA1];repeat' first|refine Yz ?_|intro _
  cases hc:Q4 ⟨C,H,T,R9 x⟩
  ·repeat' first|refine Yz ?_|intro _
   exact d9 rfl
  ·repeat' first|refine Yz ?_|intro _
   exact d9 rfl⟩

structure CliW (x:Cli):Prop where
 n:x.l.length<=1000000
 p:x.p<=9223372036854775807
 s:∀ s∈x.l,s.h<=9223372036854775807/\s.t<=9223372036854775807
def P5 (x:Cli):Bs:=j6 99 x.c++j6 107 x.k++p9 112 x.p++p9 102 (if x.f=true then 1 else 0)++M3 115 (x.l.map fun s=>O7 (V9 x.c s))
instance b5E {c k:Bs}{p:Int}{f:Bool}{l:List Sta}{xs:List AV}{id:Option Value}[hx:Stas xs l]:Ans prog GL 170 [.agg 5 [str c,str k,int p,j3 f,.sl 34 xs id]] (CliW ⟨c,k,p,f,l⟩) (str (P5 ⟨c,k,p,f,l⟩)):=⟨fun hp=>by
 obtain⟨hn,hp,hs4⟩:=hp;dsimp only at hn hp hs4;have h:=hx.out;subst h;have hm:(l.map D7).length=l.length:=llm _;refine qF func170 ntmps170 fun _ hs=>?_;repeat' first|refine Yz ?_|intro _
 rename_i g1;generalize hF:(if f=true then 1 else 0:Int)=F at *;refine yY (α:=Unit) (fun _=>[(1,ptr g1),(3,int F)]) (fun _=>[.var g1 89 (.agg 5 [str c,str k,int p,j3 f,.sl 34 (l.map D7) id])]) ?_ (fun _=>?_)
 focus
  subst hF;cases f
  all_goals
   repeat' first|refine Yz ?_|intro _
   exact X7 () ⟨rfl,rfl,trivial⟩ slr
 have hF0:F<=9223372036854775807:=by subst hF;split <;> decide
 repeat' first|refine Yz ?_|intro _
 refine aT 4 (Imp.nil (k:=1)) ?_;refine Q6 (fun ok w h=>h.full 9 1 none 0) ?_;refine y5 (α:=Nat × Value) (fun q=>[(1,ptr g1),(3,int F),(4,.sl 1 (((l.take q.1).map fun s=>O7 (V9 c s)).map str) (some q.2)),(10,.sl 34 (l.map D7) id),(11,int l.length),(12,int q.1)]) (fun q=>[.tail 9 1 q.2,.var g1 89 (.agg 5 [str c,str k,int p,j3 f,.sl 34 (l.map D7) id])]) (fun q=>q.1<=l.length) (fun q=>l.length-q.1) (0,.slice none 0 0) ⟨rfl,rfl,rfl,rfl,by rw[<- hm];rfl,rfl,trivial⟩ slr (Nat.zero_le _) ?_;rintro⟨i,v⟩ hi;dsimp only at hi ⊢;repeat' first|refine Yz ?_|intro _
 refine o8 (fun hlt=>?_) (fun hlt=>?_)
 ·have hil:i<l.length:=om
  have hst:=hs4 l[i] (List.getElem_mem hil);have hml:((l.take i).map fun s=>O7 (V9 c s)).length<=1000000:=by simp;omega
  repeat' first|refine Yz ?_|intro _
  refine I1 (fun v'=>?_);repeat' first|refine Yz ?_|intro _
  refine o6 (i+1,v') ⟨rfl,rfl,?_,rfl,rfl,rfl,trivial⟩ (List.Sublist.cons _ slr) hil (by dsimp only;omega);rw[List.take_succ_eq_append_getElem hil,List.map_append,List.map_append];rfl
 ·obtain rfl:i=l.length:=by omega
  rw[List.take_length];have hml:(l.map fun s=>O7 (V9 c s)).length<=8000000:=by simp;omega
  repeat' first|refine Yz ?_|intro _
  refine d9 ?_;unfold P5;dsimp only;rw[hF];rfl⟩
instance b2R {c k:Bs}{p:Int}{f:Bool}{l:List Sta}{xs:List AV}{id:Option Value}[hx:Stas xs l]:Ans prog GL 400 [.agg 5 [str c,str k,int p,j3 f,.sl 34 xs id]] (CliW ⟨c,k,p,f,l⟩) (str (P5 ⟨c,k,p,f,l⟩)):=⟨fun hp=>by
 obtain⟨hn,hp,hs4⟩:=hp;dsimp only at hn hp hs4;have h:=hx.out;subst h;have hm:(l.map D7).length=l.length:=llm _;refine qF func400 ntmps400 fun _ hs=>?_;repeat' first|refine Yz ?_|intro _
 rename_i g1;generalize hF:(if f=true then 1 else 0:Int)=F at *;refine yY (α:=Unit) (fun _=>[(1,ptr g1),(3,int F)]) (fun _=>[.var g1 89 (.agg 5 [str c,str k,int p,j3 f,.sl 34 (l.map D7) id])]) ?_ (fun _=>?_)
 focus
  subst hF;cases f
  all_goals
   repeat' first|refine Yz ?_|intro _
   exact X7 () ⟨rfl,rfl,trivial⟩ slr
 have hF0:F<=9223372036854775807:=by subst hF;split <;> decide
 repeat' first|refine Yz ?_|intro _
 refine aT 4 (Imp.nil (k:=1)) ?_;refine Q6 (fun ok w h=>h.full 9 1 none 0) ?_;refine y5 (α:=Nat × Value) (fun q=>[(1,ptr g1),(3,int F),(4,.sl 1 (((l.take q.1).map fun s=>O7 (V9 c s)).map str) (some q.2)),(5,int q.1)]) (fun q=>[.tail 9 1 q.2,.var g1 89 (.agg 5 [str c,str k,int p,j3 f,.sl 34 (l.map D7) id])]) (fun q=>q.1<=l.length) (fun q=>l.length-q.1) (0,.slice none 0 0) ⟨rfl,rfl,rfl,rfl,trivial⟩ slr (Nat.zero_le _) ?_;rintro⟨i,v⟩ hi;dsimp only at hi ⊢;repeat' first|refine Yz ?_|intro _
 refine o8 (fun hlt=>?_) (fun hlt=>?_)
 ·have hil:i<l.length:=om
  have hst:=hs4 l[i] (List.getElem_mem hil);have hml:((l.take i).map fun s=>O7 (V9 c s)).length<=1000000:=by simp;omega
  repeat' first|refine Yz ?_|intro _
  apply Y8 [0];exact rfl;exact rfl;exact rfl;kernel_rfl;intro _ _;refine I1 (fun v'=>?_);refine j4 (R6 [.tail 9 1 v'] [] rfl rfl lpr rfl ?_);repeat' first|refine Yz ?_|intro _
  refine o6 (i+1,v') ⟨rfl,rfl,?_,rfl,trivial⟩ slr hil (by dsimp only;omega);rw[List.take_succ_eq_append_getElem hil,List.map_append,List.map_append];rfl
 ·obtain rfl:i=l.length:=by omega
  rw[List.take_length];have hml:(l.map fun s=>O7 (V9 c s)).length<=8000000:=by simp;omega
  repeat' first|refine Yz ?_|intro _
  refine d9 ?_;unfold P5;dsimp only;rw[hF];rfl⟩
end Go.Proofs.YtjhnaegpchadiaaGreatDoor
