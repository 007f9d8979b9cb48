/- clients, walked: the references' update -/
import Derived.Test.YtppngnhckahbnaaGreatDoorA34
namespace Go.Proofs.YtppngnhckahbnaaGreatDoor
open Go Go.RowKit Tw Av
theorem all_range {n:Nat}{p:Nat→Bool}:(List.range n).all p=true↔∀ j,j < n→p j=true:=by simp
theorem may_bad {x:Cli}(h:¬ (x.k.length≤64∧1≤x.p∧x.p≤1099511627776∧1≤x.l.length∧x.l.length≤32)):mayC x=false:=by
 unfold mayC
 simp only [h,decide_false,Bool.false_and]
theorem may_at {x:Cli}{i:Nat}(hi:i < x.l.length)(h:mayAt x.c x.l i=false):mayC x=false:=by
 unfold mayC
 rw [Bool.and_eq_false_iff]
 refine .inr (Bool.eq_false_iff.2 fun hh=>?_)
 have:=all_range.1 hh i hi
 rw [h] at this
 cases this
theorem may_ok {x:Cli}(h:x.k.length≤64∧1≤x.p∧x.p≤1099511627776∧1≤x.l.length∧x.l.length≤32)(ha:∀ j,j < x.l.length→mayAt x.c x.l j=true):mayC x=true:=by
 unfold mayC
 simp only [h,decide_true,Bool.true_and,all_range.2 ha,and_self]
theorem mayAt_eq {c:Bs}{l:List Sta}{i:Nat}(hi:i < l.length):mayAt c l i=(chkH ⟨c,l[i].h,l[i].t,l[i].r⟩ && (decide (i=0) || fol (l.getD (i - 1) zeroS) l[i])):=by
 have hg:l.getD i zeroS=l[i]:=by simp [List.getD,hi]
 unfold mayAt
 rw [hg]
 rfl
set_option maxHeartbeats 1000000 in
instance fnMay {c k:Bs}{p:Int}{f:Bool}{l:List Sta}{xs:List AV}{id:Option Value}[hx:Stas xs l]:Ans Tryz.prog GL 160 [.agg 5 [str c,str k,int p,boo f,.sl 34 xs id]] True (boo (mayC ⟨c,k,p,f,l⟩)):=⟨fun _=>by
 have h:=hx.out
 subst h
 have hm:(l.map staA).length=l.length:=List.length_map _
 refine spec_enter Tryz.func160 rfl Tryz.ntmps160 rfl (fun _ hs=>?_)
 refine ac_bndA 0 4 (fun hb=>?_)
 have hb:=maxLen_le hb
 by_cases hok:k.length≤64∧1≤p∧p≤1099511627776∧1≤l.length∧l.length≤32
 ·obtain⟨h1,h2,h3,h4,h5⟩:=hok
  repeat' first|refine Zz ?_|intro _
  rename_i g1
  refine ac_loop (α:=Nat) (fun i=>[(1,ptr g1),(3,boo true),(33,.sl 34 (l.map staA) id),(34,int (l.map staA).length),(35,int i)]) (fun i=>[.var g1 79 (.agg 5 [str c,str k,int p,boo f,.sl 34 (l.map staA) id])])
   (fun i=>i≤l.length∧∀ j,j < i→mayAt c l j=true) (fun i=>l.length - i) 0 ⟨rfl,rfl,rfl,rfl,rfl,trivial⟩ (List.Sublist.refl _) ⟨Nat.zero_le _,fun _ h=>absurd h (by omega)⟩ ?_
  rintro i ⟨hi,hall⟩
  repeat' first|refine Vz ?_|intro _
  refine ac_cond (fun hlt=>?_) (fun hlt=>?_)
  ·have hil:i < l.length:=by omega
   have hat:=mayAt_eq (c:=c) hil
   repeat' first|refine Vz ?_|intro _
   cases hc:chkH ⟨c,l[i].h,l[i].t,l[i].r⟩
   ·rw [hc,Bool.false_and] at hat
    repeat' first|refine Vz ?_|intro _
    refine reE ?_
    rw [may_at (x:=⟨c,k,p,f,l⟩) hil hat]
    rfl
   rw [hc,Bool.true_and] at hat
   rcases i with _|i
   ·have h0:∀ j,j < 1→mayAt c l j=true:=fun j hj=>by
     obtain rfl:j=0:=by omega
     rw [hat]
     rfl
    repeat' first|refine Vz ?_|intro _
    refine ae_round 1 ⟨rfl,rfl,rfl,rfl,rfl,trivial⟩ ?_ ⟨hil,h0⟩ (by omega)
    exact sbl
   ·have hil2:i < l.length:=by omega
    have hg2:l.getD (i + 1 - 1) zeroS=l[i]:=by simp [List.getD,hil2]
    rw [hg2,decide_eq_false (by omega),Bool.false_or] at hat
    repeat' first|refine Vz ?_|intro _
    rw [decide_eq_false (show ¬ (((i + 1:Nat):Int)=0) by omega)]
    repeat' first|refine Vz ?_|intro _
    rw [show (((i + 1:Nat):Int) - 1)=(i:Int) by omega]
    cases hf:fol l[i] l[i + 1]
    ·rw [hf] at hat
     repeat' first|refine Vz ?_|intro _
     rw [hf]
     repeat' first|refine Vz ?_|intro _
     refine reE ?_
     rw [may_at (x:=⟨c,k,p,f,l⟩) hil hat]
     rfl
    ·rw [hf] at hat
     repeat' first|refine Vz ?_|intro _
     rw [hf]
     repeat' first|refine Vz ?_|intro _
     refine ae_round (i + 2) ⟨rfl,rfl,rfl,rfl,rfl,trivial⟩ ?_ ⟨hil,fun j hj=>?_⟩ (by omega)
     ·exact sbl
     rcases Nat.lt_or_ge j (i + 1) with h6|h6
     ·exact hall j h6
     ·obtain rfl:j=i + 1:=by omega
      exact hat
  ·obtain rfl:i=l.length:=by omega
   repeat' first|refine Vz ?_|intro _
   refine reE ?_
   rw [may_ok ⟨h1,h2,h3,h4,h5⟩ hall]
   rfl
 ·rw [may_bad hok]
  repeat' first|refine Vz ?_|intro _
  refine gu1 (fun h=>?_) (fun h6=>?_)
  ·repeat' first|refine Vz ?_|intro _
   refine reE ?_
   rfl
  repeat' first|refine Vz ?_|intro _
  refine gu1 (fun h=>?_) (fun h7=>?_)
  ·repeat' first|refine Vz ?_|intro _
   refine reE ?_
   rfl
  repeat' first|refine Vz ?_|intro _
  refine gu1 (fun h=>?_) (fun h8=>?_)
  ·repeat' first|refine Vz ?_|intro _
   refine reE ?_
   rfl
  repeat' first|refine Vz ?_|intro _
  refine gu1 (fun h=>?_) (fun h9=>?_)
  ·repeat' first|refine Vz ?_|intro _
   refine reE ?_
   rfl
  repeat' first|refine Vz ?_|intro _
  refine cdT ?_
  repeat' first|refine Vz ?_|intro _
  refine reE ?_
  rfl⟩
end Go.Proofs.YtppngnhckahbnaaGreatDoor

namespace Go.Proofs.YtppngnhckahbnaaGreatDoor
open Go Go.RowKit Tw Av
theorem sta_eq {a:Sta}{h t:Int}{r:Hsh}:(decide (a.h=h) && (decide (a.t=t) && (decide (a.r=r) && true)))=decide (a=⟨h,t,r⟩):=by
 rw [Bool.eq_iff_iff]
 simp only [Bool.and_eq_true,decide_eq_true_eq,and_true]
 constructor
 ·rintro⟨h1,h2,h3⟩
  cases a
  simp_all
 ·rintro rfl
  exact⟨rfl,rfl,rfl⟩
theorem imp_zeroC {n:Int}:Imp (.tup [.agg 5 [str [],str [],int 0,boo false,nils],int n]) (.tup [cliA zeroC,int n]):=(ImpR.imp:Imp _ (.tup [.agg 5 [str [],str [],int 0,boo false,.sl 34 [] none],int n]))
theorem imp_cli {c k:Bs}{p:Int}{f:Bool}{l:List Sta}{id:Option Value}{n:Int}:Imp (.tup [.agg 5 [str c,str k,int p,boo f,.sl 34 (l.map staA) id],int n]) (.tup [cliA ⟨c,k,p,f,l⟩,int n]):=(ImpR.imp:Imp _ (.tup [.agg 5 [str c,str k,int p,boo f,.sl 34 (l.map staA) none],int n]))
theorem imp_cli1 {c k:Bs}{p:Int}{f:Bool}{l:List Sta}{id:Option Value}:Imp (.agg 5 [str c,str k,int p,boo f,.sl 34 (l.map staA) id]) (cliA ⟨c,k,p,f,l⟩):=(ImpR.imp:Imp _ (.agg 5 [str c,str k,int p,boo f,.sl 34 (l.map staA) none]))
set_option maxHeartbeats 1000000 in
instance fnRMay {c k:Bs}{p:Int}{f:Bool}{l:List Sta}{xs:List AV}{id:Option Value}[hx:Stas xs l]:Ans Tryz.prog GL 163 [.agg 5 [str c,str k,int p,boo f,.sl 34 xs id]] True (boo (mayC ⟨c,k,p,f,l⟩)):=⟨fun _=>by
 have h:=hx.out
 subst h
 have hm:(l.map staA).length=l.length:=List.length_map _
 refine spec_enter Tryz.func163 rfl Tryz.ntmps163 rfl (fun _ hs=>?_)
 refine ac_bndA 0 4 (fun hb=>?_)
 have hb:=maxLen_le hb
 by_cases hok:(1≤c.length∧c.length≤32)∧k.length≤64∧1≤p∧p≤1099511627776∧1≤l.length∧l.length≤32
 ·obtain⟨⟨h0,h00⟩,h1,h2,h3,h4,h5⟩:=hok
  repeat' first|refine Zz ?_|intro _
  rename_i g1
  refine ac_loop (α:=Nat) (fun i=>[(1,ptr g1),(3,int i)]) (fun i=>[.var g1 79 (.agg 5 [str c,str k,int p,boo f,.sl 34 (l.map staA) id])])
   (fun i=>i≤l.length∧∀ j,j < i→mayAt c l j=true) (fun i=>l.length - i) 0 ⟨rfl,rfl,trivial⟩ (List.Sublist.refl _) ⟨Nat.zero_le _,fun _ h=>absurd h (by omega)⟩ ?_
  rintro i ⟨hi,hall⟩
  repeat' first|refine Vz ?_|intro _
  refine ac_cond (fun hlt=>?_) (fun hlt=>?_)
  ·have hil:i < l.length:=by omega
   have hat:=mayAt_eq (c:=c) hil
   repeat' first|refine Vz ?_|intro _
   cases hc:chkH ⟨c,l[i].h,l[i].t,l[i].r⟩
   ·rw [hc,Bool.false_and] at hat
    repeat' first|refine Vz ?_|intro _
    refine reE ?_
    rw [may_at (x:=⟨c,k,p,f,l⟩) hil hat]
    rfl
   rw [hc,Bool.true_and] at hat
   rcases i with _|i
   ·have h0:∀ j,j < 1→mayAt c l j=true:=fun j hj=>by
     obtain rfl:j=0:=by omega
     rw [hat]
     rfl
    repeat' first|refine Vz ?_|intro _
    refine ae_round 1 ⟨rfl,rfl,trivial⟩ ?_ ⟨hil,h0⟩ (by omega)
    exact sbl
   ·have hil2:i < l.length:=by omega
    have hg2:l.getD (i + 1 - 1) zeroS=l[i]:=by simp [List.getD,hil2]
    rw [hg2,decide_eq_false (by omega),Bool.false_or] at hat
    repeat' first|refine Vz ?_|intro _
    rw [decide_eq_true (show (0:Int) < ((i + 1:Nat):Int) by omega)]
    repeat' first|refine Vz ?_|intro _
    rw [show (((i + 1:Nat):Int) - 1)=(i:Int) by omega]
    repeat' first|refine Vz ?_|intro _
    by_cases hq:l[i + 1].h≤l[i].h
    ·have hf:fol l[i] l[i + 1]=false:=by simp [fol];omega
     rw [decide_eq_true hq]
     repeat' first|refine Vz ?_|intro _
     refine reE ?_
     rw [may_at (x:=⟨c,k,p,f,l⟩) hil (hat.trans hf)]
     rfl
    ·rw [decide_eq_false hq]
     repeat' first|refine Vz ?_|intro _
     rw [show (((i + 1:Nat):Int) - 1)=(i:Int) by omega]
     repeat' first|refine Vz ?_|intro _
     refine ac_cond (fun hh=>?_) (fun hh=>?_)
     ·have hf:fol l[i] l[i + 1]=false:=by simp [fol];omega
      repeat' first|refine Vz ?_|intro _
      refine reE ?_
      rw [may_at (x:=⟨c,k,p,f,l⟩) hil (hat.trans hf)]
      rfl
     ·have hf:fol l[i] l[i + 1]=true:=by simp [fol];omega
      repeat' first|refine Vz ?_|intro _
      refine ae_round (i + 2) ⟨rfl,rfl,trivial⟩ ?_ ⟨hil,fun j hj=>?_⟩ (by omega)
      ·exact sbl
      rcases Nat.lt_or_ge j (i + 1) with h6|h6
      ·exact hall j h6
      ·obtain rfl:j=i + 1:=by omega
       exact hat.trans hf
  ·obtain rfl:i=l.length:=by omega
   repeat' first|refine Vz ?_|intro _
   refine reE ?_
   rw [may_ok ⟨h1,h2,h3,h4,h5⟩ hall]
   rfl
 ·have hmay:mayC ⟨c,k,p,f,l⟩=false:=by
   by_cases h0:k.length≤64∧1≤p∧p≤1099511627776∧1≤l.length∧l.length≤32
   ·refine may_at (x:=⟨c,k,p,f,l⟩) (i:=0) h0.2.2.2.1 ?_
    have hc:chkH ⟨c,(l[0]'h0.2.2.2.1).h,(l[0]'h0.2.2.2.1).t,(l[0]'h0.2.2.2.1).r⟩=false:=by
     unfold chkH
     rw [decide_eq_false_iff_not]
     rintro⟨e1,e2,_⟩
     exact hok ⟨⟨e1,e2⟩,h0⟩
    rw [mayAt_eq h0.2.2.2.1,hc,Bool.false_and]
   ·exact may_bad h0
  rw [hmay]
  repeat' first|refine Vz ?_|intro _
  refine gu1 (fun h=>?_) (fun h4=>?_)
  ·repeat' first|refine Vz ?_|intro _
   refine reE ?_
   rfl
  repeat' first|refine Vz ?_|intro _
  refine gu1 (fun h=>?_) (fun h5=>?_)
  ·repeat' first|refine Vz ?_|intro _
   refine reE ?_
   rfl
  repeat' first|refine Vz ?_|intro _
  refine gu1 (fun h=>?_) (fun h6=>?_)
  ·repeat' first|refine Vz ?_|intro _
   refine reE ?_
   rfl
  repeat' first|refine Vz ?_|intro _
  refine gu1 (fun h=>?_) (fun h7=>?_)
  ·repeat' first|refine Vz ?_|intro _
   refine reE ?_
   rfl
  repeat' first|refine Vz ?_|intro _
  refine gu1 (fun h=>?_) (fun h8=>?_)
  ·repeat' first|refine Vz ?_|intro _
   refine reE ?_
   rfl
  repeat' first|refine Vz ?_|intro _
  refine gu1 (fun h=>?_) (fun h9=>?_)
  ·repeat' first|refine Vz ?_|intro _
   refine reE ?_
   rfl
  repeat' first|refine Vz ?_|intro _
  refine cdT ?_
  repeat' first|refine Vz ?_|intro _
  refine reE ?_
  rfl⟩
instance fnNew {k c:Bs}{p h t:Int}{r:Hsh}:Ans Tryz.prog GL 212 [str k,int p,.agg 35 [str c,int h,int t,hA r]] True (.tup [cliA (newR k p ⟨c,h,t,r⟩),int (newE k p ⟨c,h,t,r⟩)]):=⟨fun _=>by
 refine spec_enter Tryz.func212 rfl Tryz.ntmps212 rfl (fun _ hs=>?_)
 unfold newR newE
 cases hm:mayC (newC k p ⟨c,h,t,r⟩)
 all_goals
  repeat' first|refine Vz ?_|intro _
  rw [show mayC ⟨c,k,p,false,[⟨h,t,r⟩]⟩=_ from hm]
  repeat' first|refine Vz ?_|intro _
  refine reI ?_
 ·exact imp_zeroC
 ·exact imp_cli (c:=c) (k:=k) (p:=p) (f:=false) (l:=[⟨h,t,r⟩]) (id:=none) (n:=0)⟩
instance fnRNew {k c:Bs}{p h t:Int}{r:Hsh}:Ans Tryz.prog GL 86 [str k,int p,.agg 35 [str c,int h,int t,hA r]] True (.tup [cliA (newR k p ⟨c,h,t,r⟩),int (newE k p ⟨c,h,t,r⟩)]):=⟨fun _=>by
 refine spec_enter Tryz.func86 rfl Tryz.ntmps86 rfl (fun _ hs=>?_)
 unfold newR newE
 cases hm:mayC (newC k p ⟨c,h,t,r⟩)
 all_goals
  repeat' first|refine Vz ?_|intro _
  rw [show mayC ⟨c,k,p,false,[⟨h,t,r⟩]⟩=_ from hm]
  repeat' first|refine Vz ?_|intro _
  refine reI ?_
 ·exact imp_zeroC
 ·exact imp_cli (c:=c) (k:=k) (p:=p) (f:=false) (l:=[⟨h,t,r⟩]) (id:=none) (n:=0)⟩
end Go.Proofs.YtppngnhckahbnaaGreatDoor

namespace Go.Proofs.YtppngnhckahbnaaGreatDoor
open Go Go.RowKit Tw Av
theorem put_same {x:Cli}{s:Sta}(h:atIs x.l s.h=true)(he:x.l.getD (atI x.l s.h) zeroS=s):putC x s=x:=by
 unfold putC
 rw [if_pos ⟨h,he⟩]
theorem put_frz1 {x:Cli}{s:Sta}(h:atIs x.l s.h=true)(he:x.l.getD (atI x.l s.h) zeroS≠s):putC x s=frz x:=by
 unfold putC
 rw [if_neg (fun hh=>he hh.2),if_pos (.inl h)]
theorem put_frz2 {x:Cli}{s:Sta}(h:atIs x.l s.h=false)(hb:badAt x.l s (atI x.l s.h)=true):putC x s=frz x:=by
 unfold putC
 rw [if_neg (by rw [h];simp),if_pos (.inr hb)]
theorem put_ins {x:Cli}{s:Sta}(h:atIs x.l s.h=false)(hb:badAt x.l s (atI x.l s.h)=false):putC x s={ x with l:=insS x.l s }:=by
 unfold putC
 rw [if_neg (by rw [h];simp),if_neg (by rw [h,hb];simp)]
theorem bad_0 {l:List Sta}{s:Sta}:badAt l s 0=(decide (0 < l.length) && !fol s (l.getD 0 zeroS)):=by simp [badAt]
theorem bad_s {l:List Sta}{s:Sta}{i:Nat}(hi:i < l.length):badAt l s (i + 1)=(!fol l[i] s || (decide (i + 1 < l.length) && !fol s (l.getD (i + 1) zeroS))):=by
 have:l.getD (i + 1 - 1) zeroS=l[i]:=by simp [List.getD,hi]
 unfold badAt
 rw [this]
 simp
set_option maxHeartbeats 2000000 in
instance fnCPut {c k:Bs}{p h t:Int}{f:Bool}{r:Hsh}{l:List Sta}{xs:List AV}{id:Option Value}[hx:Stas xs l]:Ans Tryz.prog GL 301 [.agg 5 [str c,str k,int p,boo f,.sl 34 xs id],.agg 34 [int h,int t,hA r]] (l.length≤1000000) (cliA (putC ⟨c,k,p,f,l⟩ ⟨h,t,r⟩)):=⟨fun hlen=>by
 have hxo:=hx.out
 subst hxo
 have hm:(l.map staA).length=l.length:=List.length_map _
 have hle:=atI_le l h
 refine spec_enter Tryz.func301 rfl Tryz.ntmps301 rfl (fun _ hs=>?_)
 repeat' (first|refine ct1 ?_|refine op1 ?_|refine opL ?_|refine op2 ?_|intro _)
 cases his:atIs l h
 ·refine dr1 hs ?_
  repeat' (first|refine ct1 ?_|refine op1 ?_|refine opL ?_|refine op2 ?_|refine ob1 ?_|refine ob4 ?_|refine ob2 (fun _=>?_)|intro _)
  rename_i g2 g3 g4
  refine ac_mid (α:=Unit) (fun _=>[(2,ptr g2),(3,ptr g3),(4,ptr g4),(5,int (atI l h)),(26,boo (badAt l ⟨h,t,r⟩ (atI l h)))]) (fun _=>[.var g4 79 (.agg 5 [str [],str [],int 0,boo false,nils]),.var g3 93 (staA ⟨h,t,r⟩),.var g2 79 (.agg 5 [str c,str k,int p,boo f,.sl 34 (l.map staA) id])]) ?_ (fun _=>?_)
  ·generalize atI l h=i at *
   rcases i with _|i
   ·rw [bad_0]
    repeat' first|refine Vz ?_|intro _
    by_cases hlt:0 < l.length
    ·have hg:l.getD 0 zeroS=l[0]:=by simp [List.getD,hlt]
     rw [decide_eq_true (show ((0:Nat):Int) < ((l.map staA).length:Int) by omega)]
     repeat' first|refine Vz ?_|intro _
     exact ae_cut () ⟨rfl,rfl,rfl,rfl,by rw [decide_eq_true hlt,hg];rfl,trivial⟩ (List.Sublist.refl _)
    ·rw [decide_eq_false (show ¬ ((0:Nat):Int) < ((l.map staA).length:Int) by omega)]
     repeat' first|refine Vz ?_|intro _
     exact ae_cut () ⟨rfl,rfl,rfl,rfl,by rw [decide_eq_false hlt];rfl,trivial⟩ (List.Sublist.refl _)
   ·have hil:i < l.length:=by omega
    rw [bad_s hil]
    repeat' first|refine Vz ?_|intro _
    rw [decide_eq_true (show (0:Int) < ((i + 1:Nat):Int) by omega)]
    repeat' first|refine Vz ?_|intro _
    rw [show (((i + 1:Nat):Int) - 1)=(i:Int) by omega]
    repeat' first|refine Vz ?_|intro _
    cases hf:fol l[i] ⟨h,t,r⟩
    ·repeat' first|refine Vz ?_|intro _
     exact ae_cut () ⟨rfl,rfl,rfl,rfl,rfl,trivial⟩ (List.Sublist.refl _)
    ·repeat' first|refine Vz ?_|intro _
     by_cases hlt:i + 1 < l.length
     ·rw [decide_eq_true (show ((i + 1:Nat):Int) < ((l.map staA).length:Int) by omega)]
      repeat' first|refine Vz ?_|intro _
      have hg:l.getD (i + 1) zeroS=l[i + 1]:=by simp [List.getD,hlt]
      exact ae_cut () ⟨rfl,rfl,rfl,rfl,by rw [decide_eq_true hlt,hg];rfl,trivial⟩ (List.Sublist.refl _)
     ·rw [decide_eq_false (show ¬ ((i + 1:Nat):Int) < ((l.map staA).length:Int) by omega)]
      repeat' first|refine Vz ?_|intro _
      exact ae_cut () ⟨rfl,rfl,rfl,rfl,by rw [decide_eq_false hlt];rfl,trivial⟩ (List.Sublist.refl _)
  ·cases hbad:badAt l ⟨h,t,r⟩ (atI l h)
   ·repeat' (first|refine ct1 ?_|refine op1 ?_|refine opL ?_|refine op2 ?_|refine ob1 ?_|refine ob4 ?_|refine ob2 (fun _=>?_)|intro _)
    refine ac_perm [0,1,3,4,5,2,6,7,8] (by kernel_rfl) rfl hs (by kernel_rfl) ?_
    repeat' (first|refine ct1 ?_|refine op1 ?_|refine opL ?_|refine op2 ?_|refine ob1 ?_|refine ob4 ?_|refine ob2 (fun _=>?_)|intro _)
    have hL:(l.take (atI l h)++⟨h,t,r⟩::l.drop (atI l h)).length=l.length + 1:=by simp;omega
    have hmap:(l.map staA).take (atI l h)++staA ⟨h,t,r⟩::(l.map staA).drop (atI l h)=(l.take (atI l h)++⟨h,t,r⟩::l.drop (atI l h)).map staA:=by simp
    have hend:putC ⟨c,k,p,f,l⟩ ⟨h,t,r⟩=⟨c,k,p,f,(l.take (atI l h)++⟨h,t,r⟩::l.drop (atI l h)).drop (l.length + 1 - 32)⟩:=put_ins his hbad
    rw [hend]
    apply obl_fresh []
    exact rfl
    exact rfl
    kernel_rfl
    kernel_rfl
    intro _ hs'
    refine al_callK [] _ (by rw [hs'];exact cloneS_spec (xs:=l.map staA) (id:=id) (by rw [List.length_map];omega)) (fun u m1 hh=>?_) (List.Perm.refl _)
    rcases hh with⟨hnil,rfl,rfl⟩|⟨g,cap,rfl,rfl,hcap⟩
    ·obtain rfl:l=[]:=by simpa using hnil
     have hx1:([staA ⟨h,t,r⟩]:List AV).length=1:=rfl
     refine al_nil (ae_fresh [] [] rfl rfl (List.Perm.refl _) rfl ?_)
     apply obl_fresh []
     exact rfl
     exact rfl
     kernel_rfl
     kernel_rfl
     intro _ hs'
     refine al_callK [] _ (by rw [hs'];exact insertS_nil (x:=staA ⟨h,t,r⟩) (idv:=none)) (fun u m1 hh=>?_) (List.Perm.refl _)
     rcases hh with⟨hnil,rfl,rfl⟩|⟨g,cap,rfl,rfl,hcap⟩
     ·simp at hnil
     ·refine al_freeze 68 ?_
      refine al_as 68 Imp.sl ?_
      refine al_nil (ae_fresh [] [.tail 93 34 _] rfl rfl (List.Perm.refl _) rfl ?_)
      repeat' first|refine Vz ?_|intro _
      refine al_sliceD 0 1 ?_
      repeat' first|refine Vz ?_|intro _
      refine reI ?_
      exact imp_cli1 (l:=[⟨h,t,r⟩])
    ·refine al_nil (ae_fresh [] [.buf g 93 34 (l.map staA) cap] rfl rfl (List.Perm.refl _) rfl ?_)
     apply obl_fresh [3]
     exact rfl
     exact rfl
     kernel_rfl
     kernel_rfl
     intro _ hs'
     refine al_callK [.buf g 93 34 (l.map staA) cap] [] (by rw [hs'];exact insertS_spec (i:=atI l h) (x:=staA ⟨h,t,r⟩) (idv:=none) rfl hcap (by rw [hm];exact hle) (by rw [hm];omega)) (fun u m1 hh=>?_) (List.Perm.refl _)
     rw [hmap] at hh
     rcases hh with⟨hnil,rfl,rfl⟩|⟨g,cap,rfl,rfl,hcap⟩
     ·simp at hnil
     ·refine al_freeze 68 ?_
      refine al_as 68 Imp.sl ?_
      refine al_nil (ae_fresh [.tail 93 34 _] [] rfl rfl (List.Perm.refl _) rfl ?_)
      have hL2:((l.take (atI l h)++⟨h,t,r⟩::l.drop (atI l h)).map staA).length=l.length + 1:=by rw [List.length_map,hL]
      repeat' first|refine Vz ?_|intro _
      refine al_sliceD (l.length + 1 - 32) (l.length + 1) ?_
      rw [← hL2,List.take_length,hL2,← List.map_drop]
      repeat' first|refine Vz ?_|intro _
      refine reI ?_
      exact imp_cli1
   ·repeat' first|refine Vz ?_|intro _
    refine reI ?_
    rw [put_frz2 his hbad]
    exact imp_cli1
 ·have hl:atI l h < l.length:=by
   rcases Nat.lt_or_ge (atI l h) l.length with h|h
   ·exact h
   ·rw [atIs_out (by omega)] at his;cases his
  have hg:l.getD (atI l h) zeroS=l[atI l h]:=by simp [List.getD,hl]
  repeat' first|refine Vz ?_|intro _
  by_cases he:l[atI l h]=⟨h,t,r⟩
  ·rw [sta_eq,decide_eq_true he]
   repeat' first|refine Vz ?_|intro _
   refine reI ?_
   rw [put_same his (hg.trans he)]
   exact imp_cli1
  ·rw [sta_eq,decide_eq_false he]
   repeat' first|refine Vz ?_|intro _
   refine reI ?_
   rw [put_frz1 his (by rw [hg];exact he)]
   exact imp_cli1⟩
end Go.Proofs.YtppngnhckahbnaaGreatDoor

namespace Go.Proofs.YtppngnhckahbnaaGreatDoor
open Go Go.RowKit Tw Av
theorem imp_zeroC' {n:Int}{o:Cli}(h:o=zeroC):Imp (.tup [.agg 5 [str [],str [],int 0,boo false,nils],int n]) (.tup [cliA o,int n]):=by rw [h];exact imp_zeroC
structure CliOk (x:Cli):Prop where
 n:x.l.length≤1000000
 k:x.k.length≤1000000
 t:-4611686018427387904≤(latC x.l).t∧(latC x.l).t≤4611686018427387904
 p:-4611686018427387904≤x.p∧x.p < 4611686018427387904
theorem upd19 {x:Cli}{h:Hdr}{mac:Hsh}{now:Int}(e:actC x now=false):updE x h mac now=19∧updC x h mac now=zeroC:=by
 have:updE x h mac now=19:=by unfold updE;rw [if_pos e]
 exact⟨this,by unfold updC;rw [this];rfl⟩
theorem upd1 {x:Cli}{h:Hdr}{mac:Hsh}{now:Int}(e:actC x now=true)(e2:chkH h=false∨h.c≠x.c):updE x h mac now=1∧updC x h mac now=zeroC:=by
 have:updE x h mac now=1:=by unfold updE;rw [if_neg (by rw [e];simp),if_pos e2]
 exact⟨this,by unfold updC;rw [this];rfl⟩
theorem upd18 {x:Cli}{h:Hdr}{mac:Hsh}{now:Int}(e:actC x now=true)(e2:chkH h=true)(e3:h.c=x.c)(e4:sealOf x.k h≠mac):updE x h mac now=18∧updC x h mac now=zeroC:=by
 have:updE x h mac now=18:=by unfold updE;rw [if_neg (by rw [e];simp),if_neg (by rw [e2,e3];simp),if_pos e4]
 exact⟨this,by unfold updC;rw [this];rfl⟩
theorem upd0 {x:Cli}{h:Hdr}{mac:Hsh}{now:Int}(e:actC x now=true)(e2:chkH h=true)(e3:h.c=x.c)(e4:sealOf x.k h=mac):updE x h mac now=0∧updC x h mac now=putC x (stOf h):=by
 have:updE x h mac now=0:=by unfold updE;rw [if_neg (by rw [e];simp),if_neg (by rw [e2,e3];simp),if_neg (by rw [e4];simp)]
 exact⟨this,by unfold updC;rw [this];rfl⟩
set_option maxHeartbeats 1000000 in
instance fnUpdate {c k c':Bs}{p h t now:Int}{f:Bool}{r mac:Hsh}{l:List Sta}{xs:List AV}{id:Option Value}[hx:Stas xs l]:Ans Tryz.prog GL 215 [.agg 5 [str c,str k,int p,boo f,.sl 34 xs id],.agg 35 [str c',int h,int t,hA r],hA mac,int now] (CliOk ⟨c,k,p,f,l⟩∧h≤9223372036854775807∧t≤9223372036854775807) (.tup [cliA (updC ⟨c,k,p,f,l⟩ ⟨c',h,t,r⟩ mac now),int (updE ⟨c,k,p,f,l⟩ ⟨c',h,t,r⟩ mac now)]):=⟨fun hpre=>by
 obtain⟨⟨p1,p2,⟨p3,p4⟩,p5,p6⟩,p7,p8⟩:=hpre
 dsimp only at p1 p2 p3 p4 p5 p6
 have hxo:=hx.out
 subst hxo
 refine spec_enter Tryz.func215 rfl Tryz.ntmps215 rfl (fun _ hs=>?_)
 repeat' first|refine Vz ?_|intro _
 cases ha:actC ⟨c,k,p,f,l⟩ now
 ·obtain⟨e1,e2⟩:=upd19 (h:=⟨c',h,t,r⟩) (mac:=mac) ha
  rw [e1]
  repeat' first|refine Vz ?_|intro _
  refine reI ?_
  exact imp_zeroC' e2
 repeat' first|refine Vz ?_|intro _
 cases hc:chkH ⟨c',h,t,r⟩
 ·obtain⟨e1,e2⟩:=upd1 (mac:=mac) ha (.inl hc)
  rw [e1]
  repeat' first|refine Vz ?_|intro _
  refine reI ?_
  exact imp_zeroC' e2
 repeat' first|refine Vz ?_|intro _
 by_cases hcc:c'≠c
 ·obtain⟨e1,e2⟩:=upd1 (h:=⟨c',h,t,r⟩) (mac:=mac) ha (.inr hcc)
  rw [e1,decide_eq_true hcc]
  repeat' first|refine Vz ?_|intro _
  refine reI ?_
  exact imp_zeroC' e2
 ·rw [decide_eq_false hcc]
  have hcc:c'=c:=Classical.not_not.1 hcc
  repeat' first|refine Vz ?_|intro _
  by_cases hmac:sealOf k ⟨c',h,t,r⟩≠mac
  ·obtain⟨e1,e2⟩:=upd18 (x:=⟨c,k,p,f,l⟩) ha hc hcc hmac
   rw [e1,decide_eq_false (show ¬ sealOf k ⟨c',h,t,r⟩=mac from hmac)]
   repeat' first|refine Vz ?_|intro _
   refine reI ?_
   exact imp_zeroC' e2
  ·have hmac:sealOf k ⟨c',h,t,r⟩=mac:=Classical.not_not.1 hmac
   obtain⟨e1,e2⟩:=upd0 (x:=⟨c,k,p,f,l⟩) ha hc hcc hmac
   rw [e1,decide_eq_true hmac]
   repeat' first|refine Vz ?_|intro _
   refine reE ?_
   rw [e2]
   rfl⟩
end Go.Proofs.YtppngnhckahbnaaGreatDoor

namespace Go.Proofs.YtppngnhckahbnaaGreatDoor
open Go Go.RowKit Tw Av
theorem fold_hit {l:List Sta}{s:Sta}{i:Nat}{a:List Sta × Bool}(hi:i < l.length)(h:(l.take i).foldl (stepU s) (some ([],false))=some a)(hh:hits s l[i]=true):insR l s=none:=by
 have:l.foldl (stepU s) (some ([],false))=none:=by
  have e:l=l.take i++l[i]::l.drop (i + 1):=by rw [← List.drop_eq_getElem_cons hi,List.take_append_drop]
  rw [e,List.foldl_append,h,List.foldl_cons,stepU_some,if_pos hh,fold_none]
 unfold insR
 rw [this]
theorem fold_next {l:List Sta}{s:Sta}{i:Nat}{acc:List Sta}{put:Bool}(hi:i < l.length)(h:(l.take i).foldl (stepU s) (some ([],false))=some (acc,put))(hh:hits s l[i]=false) :
  (l.take (i + 1)).foldl (stepU s) (some ([],false))=some (if put=false∧s.h < l[i].h then (acc++[s]++[l[i]],true) else (acc++[l[i]],put)):=by
 rw [List.take_succ_eq_append_getElem hi,List.foldl_append,h,List.foldl_cons,List.foldl_nil,stepU_some,if_neg (by rw [hh];simp)]
 split <;> rfl
theorem ins_end {l:List Sta}{s:Sta}{acc:List Sta}{put:Bool}(h:l.foldl (stepU s) (some ([],false))=some (acc,put)):insR l s=some (if put=true then acc else acc++[s]):=by
 unfold insR
 rw [h]
 cases put <;> rfl
set_option maxHeartbeats 2000000 in
instance fnRUpdate {c k c':Bs}{p h t now:Int}{f:Bool}{r mac:Hsh}{l:List Sta}{xs:List AV}{id:Option Value}[hx:Stas xs l]:Ans Tryz.prog GL 244 [.agg 5 [str c,str k,int p,boo f,.sl 34 xs id],.agg 35 [str c',int h,int t,hA r],hA mac,int now] (CliOk ⟨c,k,p,f,l⟩∧(Rise l∧l.length≤32)∧h≤9223372036854775807∧t≤9223372036854775807) (.tup [cliA (updC ⟨c,k,p,f,l⟩ ⟨c',h,t,r⟩ mac now),int (updE ⟨c,k,p,f,l⟩ ⟨c',h,t,r⟩ mac now)]):=⟨fun hpre=>by
 obtain⟨⟨p1,p2,⟨p3,p4⟩,p5,p6⟩,⟨hr,h32⟩,p7,p8⟩:=hpre
 dsimp only at p1 p2 p3 p4 p5 p6
 have hxo:=hx.out
 subst hxo
 have hm:(l.map staA).length=l.length:=List.length_map _
 refine spec_enter Tryz.func244 rfl Tryz.ntmps244 rfl (fun _ hs=>?_)
 repeat' first|refine Vz ?_|intro _
 cases ha:actC ⟨c,k,p,f,l⟩ now
 ·obtain⟨e1,e2⟩:=upd19 (h:=⟨c',h,t,r⟩) (mac:=mac) ha
  rw [e1]
  repeat' first|refine Vz ?_|intro _
  refine reI ?_
  exact imp_zeroC' e2
 repeat' first|refine Vz ?_|intro _
 cases hc:chkH ⟨c',h,t,r⟩
 ·obtain⟨e1,e2⟩:=upd1 (mac:=mac) ha (.inl hc)
  rw [e1]
  repeat' first|refine Vz ?_|intro _
  refine reI ?_
  exact imp_zeroC' e2
 repeat' first|refine Vz ?_|intro _
 by_cases hcc:c'≠c
 ·obtain⟨e1,e2⟩:=upd1 (h:=⟨c',h,t,r⟩) (mac:=mac) ha (.inr hcc)
  rw [e1,decide_eq_true hcc]
  repeat' first|refine Vz ?_|intro _
  refine reI ?_
  exact imp_zeroC' e2
 rw [decide_eq_false hcc]
 have hcc:c'=c:=Classical.not_not.1 hcc
 repeat' first|refine Vz ?_|intro _
 by_cases hmac:sealOf k ⟨c',h,t,r⟩≠mac
 ·obtain⟨e1,e2⟩:=upd18 (x:=⟨c,k,p,f,l⟩) ha hc hcc hmac
  rw [e1,decide_eq_false (show ¬ sealOf k ⟨c',h,t,r⟩=mac from hmac)]
  repeat' first|refine Vz ?_|intro _
  refine reI ?_
  exact imp_zeroC' e2
 have hmac:sealOf k ⟨c',h,t,r⟩=mac:=Classical.not_not.1 hmac
 obtain⟨e1,e2⟩:=upd0 (x:=⟨c,k,p,f,l⟩) ha hc hcc hmac
 have e3:updC ⟨c,k,p,f,l⟩ ⟨c',h,t,r⟩ mac now=putCR ⟨c,k,p,f,l⟩ ⟨h,t,r⟩:=e2.trans (putCR_eq hr h32).symm
 rw [e1,e3,decide_eq_true hmac]
 clear e1 e2 e3 p3 p4 p5 p6 p7 p8 ha hc hmac
 unfold putCR
 repeat' first|refine Vz ?_|intro _
 cases hfd:findR l h with
 | some o=>
  simp only [Option.getD_some,Option.isSome_some]
  repeat' first|refine Vz ?_|intro _
  rw [sta_eq (a:=o)]
  by_cases ho:o=⟨h,t,r⟩
  ·rw [decide_eq_true ho,if_pos ho]
   repeat' first|refine Vz ?_|intro _
   refine reI ?_
   exact imp_cli
  ·rw [decide_eq_false ho,if_neg ho]
   repeat' first|refine Vz ?_|intro _
   refine reI ?_
   exact imp_cli
 | none=>
  simp only [Option.getD_none,Option.isSome_none]
  repeat' first|refine Vz ?_|intro _
  rename_i g4 g5 g6 g8 hcc0 g12 g13 g15
  refine ac_as 16 (Imp.nil (k:=34)) ?_
  refine ac_st (fun ok w h=>h.full 93 34 none 0) ?_
  have hcl0:∀ {put:Bool} {a b:List Sta},(if put=true then a else b).length≤max a.length b.length:=by
   intro put a b
   cases put <;> simp <;> omega
  refine ac_loop (α:=Nat × Value × List Sta × Bool) (fun q=>[(4,ptr g4),(8,ptr g8),(12,ptr g12),(15,ptr g15),(16,.sl 34 (q.2.2.1.map staA) (some q.2.1)),(17,boo q.2.2.2),(18,int q.1)])
   (fun q=>[.tail 93 34 q.2.1,.var g15 79 (.agg 5 [str c,str k,int p,boo true,.sl 34 (l.map staA) id]),.var g12 93 (.agg 34 [int h,int t,hA r]),.var g8 79 (.agg 5 [str [],str [],int 0,boo false,nils]),.var g4 79 (.agg 5 [str c,str k,int p,boo f,.sl 34 (l.map staA) id])])
   (fun q=>q.1≤l.length∧(l.take q.1).foldl (stepU ⟨h,t,r⟩) (some ([],false))=some (q.2.2.1,q.2.2.2)∧q.2.2.1.length≤2 * q.1) (fun q=>l.length - q.1) (0,.slice none 0 0,[],false) ⟨rfl,rfl,rfl,rfl,rfl,rfl,rfl,trivial⟩ ?_ ⟨Nat.zero_le _,rfl,Nat.zero_le _⟩ ?_
  ·exact sbl
  rintro⟨i,v,acc,put⟩ ⟨hi,hfo,hal⟩
  dsimp only at hi hfo hal ⊢
  have hmacc:(acc.map staA).length=acc.length:=List.length_map _
  repeat' first|refine Vz ?_|intro _
  refine ac_cond (fun hlt=>?_) (fun hlt=>?_)
  ·have hil:i < l.length:=by omega
   have hnx:=fun hh=>fold_next hil hfo hh
   repeat' first|refine Vz ?_|intro _
   rename_i g19
   by_cases hhit:hits ⟨h,t,r⟩ l[i]=true
   ·have hno:=fold_hit hil hfo hhit
    rw [hno]
    simp [hits] at hhit
    rcases hhit with⟨a1,a2⟩|⟨a1,a2⟩
    all_goals
     repeat' first|refine Zz ?_|intro _
     refine reI ?_
     exact imp_cli (f:=true)
   ·have hhit:hits ⟨h,t,r⟩ l[i]=false:=by simpa using hhit
    have hnx:=hnx hhit
    simp [hits] at hhit
    have hone:(acc++[l[i]]).map staA=acc.map staA++[staA l[i]]:=by simp
    have htwo:(acc++[(⟨h,t,r⟩:Sta)]++[l[i]]).map staA=acc.map staA++[staA ⟨h,t,r⟩]++[staA l[i]]:=by simp
    cases put
    ·by_cases a1:h < l[i].h
     ·rw [if_pos ⟨rfl,a1⟩] at hnx
      repeat' first|refine Zz ?_|intro _
      refine al_append (fun v1=>?_)
      repeat' first|refine Zz ?_|intro _
      refine al_append (fun v2=>?_)
      repeat' first|refine Zz ?_|intro _
      refine ae_as 16 (v':=.sl 34 ((acc++[(⟨h,t,r⟩:Sta)]++[l[i]]).map staA) (some v2)) (Imp.of_eq (by rw [htwo])) ?_
      refine ae_round (i + 1,v2,acc++[(⟨h,t,r⟩:Sta)]++[l[i]],true) ⟨rfl,rfl,rfl,rfl,rfl,rfl,rfl,trivial⟩ ?_ ⟨hil,hnx,by simp;omega⟩ (by dsimp only;omega)
      exact sbl
     ·rw [if_neg (fun hh=>a1 hh.2)] at hnx
      by_cases a2:l[i].h < h
      all_goals
       repeat' first|refine Zz ?_|intro _
       refine al_append (fun v2=>?_)
       repeat' first|refine Zz ?_|intro _
       refine ae_as 16 (v':=.sl 34 ((acc++[l[i]]).map staA) (some v2)) (Imp.of_eq (by rw [hone])) ?_
       refine ae_round (i + 1,v2,acc++[l[i]],false) ⟨rfl,rfl,rfl,rfl,rfl,rfl,rfl,trivial⟩ ?_ ⟨hil,hnx,by simp;omega⟩ (by dsimp only;omega)
       exact sbl
    ·rw [if_neg (fun hh=>by cases hh.1)] at hnx
     by_cases a1:h < l[i].h
     ·repeat' first|refine Zz ?_|intro _
      refine al_append (fun v2=>?_)
      repeat' first|refine Zz ?_|intro _
      refine ae_as 16 (v':=.sl 34 ((acc++[l[i]]).map staA) (some v2)) (Imp.of_eq (by rw [hone])) ?_
      refine ae_round (i + 1,v2,acc++[l[i]],true) ⟨rfl,rfl,rfl,rfl,rfl,rfl,rfl,trivial⟩ ?_ ⟨hil,hnx,by simp;omega⟩ (by dsimp only;omega)
      exact sbl
     ·by_cases a2:l[i].h < h
      all_goals
       repeat' first|refine Zz ?_|intro _
       refine al_append (fun v2=>?_)
       repeat' first|refine Zz ?_|intro _
       refine ae_as 16 (v':=.sl 34 ((acc++[l[i]]).map staA) (some v2)) (Imp.of_eq (by rw [hone])) ?_
       refine ae_round (i + 1,v2,acc++[l[i]],true) ⟨rfl,rfl,rfl,rfl,rfl,rfl,rfl,trivial⟩ ?_ ⟨hil,hnx,by simp;omega⟩ (by dsimp only;omega)
       exact sbl
  ·obtain rfl:i=l.length:=by omega
   rw [List.take_length] at hfo
   rw [ins_end hfo]
   repeat' first|refine Vz ?_|intro _
   have hone:(acc++[(⟨h,t,r⟩:Sta)]).map staA=acc.map staA++[staA ⟨h,t,r⟩]:=by simp
   refine ac_mid (α:=Value) (fun v=>[(4,ptr g4),(8,ptr g8),(16,.sl 34 ((if put=true then acc else acc++[(⟨h,t,r⟩:Sta)]).map staA) (some v))]) (fun _=>[.var g8 79 (.agg 5 [str [],str [],int 0,boo false,nils]),.var g4 79 (.agg 5 [str c,str k,int p,boo f,.sl 34 (l.map staA) id])]) ?_ (fun v=>?_)
   ·cases put
    ·repeat' first|refine Vz ?_|intro _
     refine al_append (fun v2=>?_)
     repeat' first|refine Vz ?_|intro _
     refine ae_cut v2 ⟨rfl,rfl,by rw [← hone];rfl,trivial⟩ ?_
     exact sbl
    ·repeat' first|refine Vz ?_|intro _
     refine ae_cut v ⟨rfl,rfl,rfl,trivial⟩ ?_
     exact sbl
   ·have hle:(if put=true then acc else acc++[(⟨h,t,r⟩:Sta)]).length≤66:=by
     cases put <;> simp <;> omega
    generalize (if put=true then acc else acc++[(⟨h,t,r⟩:Sta)])=L at *
    have hmL:(L.map staA).length=L.length:=List.length_map _
    simp only [cutR]
    repeat' first|refine Vz ?_|intro _
    refine ac_cond (fun h9=>?_) (fun h9=>?_)
    ·rw [if_pos (show 32 < L.length by omega)]
     repeat' first|refine Vz ?_|intro _
     refine al_sliceD 1 L.length ?_
     rw [← hmL,List.take_length,← List.map_drop]
     repeat' first|refine Vz ?_|intro _
     refine reI ?_
     exact imp_cli
    ·rw [if_neg (show ¬ 32 < L.length by omega)]
     repeat' first|refine Vz ?_|intro _
     refine reI ?_
     exact imp_cli⟩
end Go.Proofs.YtppngnhckahbnaaGreatDoor
