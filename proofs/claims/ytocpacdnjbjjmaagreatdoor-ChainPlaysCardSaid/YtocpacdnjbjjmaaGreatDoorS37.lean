/- . -/
import Derived.Test.YtocpacdnjbjjmaaGreatDoorS36
set_option maxHeartbeats 64000000
namespace Go.Proofs.YtocpacdnjbjjmaaGreatDoor
open Go Go.RowKit Tw Av Go.Proofs.Tryz
instance b8P {a c:Bs}:Ans prog GL 360 [str a,str c] True (str (F7 a c)):=⟨fun _=>by
 refine qE func360 rfl ntmps360 rfl (fun _ hs=>?_);repeat' first|refine Vz ?_|intro _
 refine d9 ?_;rfl⟩
instance b8K {c:Bs}:Ans prog GL 359 [str c] True (str (O4 c)):=⟨fun _=>by
 refine qE func359 rfl ntmps359 rfl (fun _ hs=>?_);repeat' first|refine Vz ?_|intro _
 refine d9 ?_;rfl⟩
instance b6b {a c:Bs}:Ans prog GL 269 [str a,str c] True (str (F7 a c)):=⟨fun _=>by
 refine qE func269 rfl ntmps269 rfl (fun _ hs=>?_);repeat' first|refine Vz ?_|intro _
 refine d9 ?_;rfl⟩
instance b5W {c:Bs}:Ans prog GL 268 [str c] True (str (O4 c)):=⟨fun _=>by
 refine qE func268 rfl ntmps268 rfl (fun _ hs=>?_);repeat' first|refine Vz ?_|intro _
 refine d9 ?_;rfl⟩
instance b8Q {d:List Ent}{k:Bs}{xs:List AV}{id:Option Value}[hx:Ents xs d]:Ans prog GL 410 [.agg 1 [.sl 2 xs id],str k] (DOk d) (C9 (D7 d k)):=⟨fun hd=>by
 have hv:(Q3 d k).length<=1000000000:=Nat.le_trans (hd.val k) dc;refine qE func410 rfl ntmps410 rfl (fun _ hs=>?_);repeat' first|refine Vz ?_|intro _
 unfold D7;by_cases h:(Q3 d k).length=32
 ·simp only[if_pos h];repeat' first|refine Zz ?_|intro _
  refine d9 ?_;rfl
 ·simp only[if_neg h];repeat' first|refine Zz ?_|intro _
  refine d9 ?_;rfl⟩
instance b6c {d:List Ent}{k:Bs}{xs:List AV}{id:Option Value}[hx:Ents xs d]:Ans prog GL 339 [.sl 2 xs id,str k] (DOk d) (C9 (D7 d k)):=⟨fun hd=>by
 have hv:(Q3 d k).length<=1000000000:=Nat.le_trans (hd.val k) dc;refine qE func339 rfl ntmps339 rfl (fun _ hs=>?_);repeat' first|refine Vz ?_|intro _
 unfold D7;by_cases h:(Q3 d k).length=32
 ·simp only[if_pos h];repeat' first|refine Zz ?_|intro _
  refine d9 ?_;rfl
 ·simp only[if_neg h];repeat' first|refine Zz ?_|intro _
  refine d9 ?_;rfl⟩
instance b8S {d:List Ent}{a c:Bs}{xs:List AV}{id:Option Value}[hx:Ents xs d]:Ans prog GL 356 [.agg 1 [.sl 2 xs id],str a,str c] (DOk d) (C9 (D7 d (F7 a c))):=⟨fun hd=>by
 refine qE func356 rfl ntmps356 rfl (fun _ hs=>?_);repeat' first|refine Vz ?_|intro _
 refine d9 ?_;rfl⟩
instance b6e {d:List Ent}{a c:Bs}{xs:List AV}{id:Option Value}[hx:Ents xs d]:Ans prog GL 266 [.sl 2 xs id,str a,str c] (DOk d) (C9 (D7 d (F7 a c))):=⟨fun hd=>by
 refine qE func266 rfl ntmps266 rfl (fun _ hs=>?_);repeat' first|refine Vz ?_|intro _
 refine d9 ?_;rfl⟩
instance b5X {d:List Ent}{c:Bs}{xs:List AV}{id:Option Value}[hx:Ents xs d]:Ans prog GL 265 [.sl 2 xs id,str c] (DOk d) (C9 (D7 d (O4 c))):=⟨fun hd=>by
 refine qE func265 rfl ntmps265 rfl (fun _ hs=>?_);repeat' first|refine Vz ?_|intro _
 refine d9 ?_;rfl⟩
instance b8O {c:Bs}{n:Wd}{l:List Bs}{xs:List AV}{id:Option Value}[hx:Strs xs l]:Ans prog GL 354 [str c,C9 n,.sl 1 xs id] True (j3 (l.all M5&&(V3 c&&decide (n.n≠0)))):=⟨fun _=>by
 have h:=hx.out;subst h;have hm:(l.map str).length=l.length:=llm _;refine qE func354 rfl ntmps354 rfl (fun _ hs=>?_);refine uZ 2 (fun hb=>?_);have hb:=lJ hb;repeat' first|refine Vz ?_|intro _
 rename_i g4;refine z8 (α:=Nat) (fun i=>[(0,str c),(4,ptr g4),(9,.sl 1 (l.map str) id),(10,int (l.map str).length),(11,int i)]) (fun i=>[.var g4 94 (C9 n)]) (fun i=>i<=l.length/\∀ j,(hj:j<l.length)->j<i->M5 l[j]=true) (fun i=>l.length-i) 0 ⟨rfl,rfl,rfl,rfl,rfl,trivial⟩ slr ⟨Nat.zero_le _,fun _ _ h=>absurd h om⟩ ?_;rintro i ⟨hi,hall⟩;repeat' first|refine Vz ?_|intro _
 refine o9 (fun hlt=>?_) (fun hlt=>?_)
 ·have hil:i<l.length:=om
  repeat' first|refine Vz ?_|intro _
  refine o9 (fun h=>?_) (fun h=>?_)
  ·have hb:M5 l[i]=false:=dZ h;repeat' first|refine Vz ?_|intro _
   refine d9 ?_;have:l.all M5=false:=List.all_eq_false.2 ⟨_,List.getElem_mem hil,by rw[hb];decide⟩;rw[this];rfl
  ·have hb:M5 l[i]=true:=dT (Classical.not_not.1 h);repeat' first|refine Vz ?_|intro _
   refine o6 (i+1) ⟨rfl,rfl,rfl,rfl,rfl,trivial⟩ slr ⟨hil,fun j hj h=>?_⟩ om;by_cases hj2:j<i
   ·exact hall j hj hj2
   ·obtain rfl:j=i:=by omega
    exact hb
 ·obtain rfl:i=l.length:=by omega
  have ht:l.all M5=true:=List.all_eq_true.2 fun x hx=>by
   obtain⟨j,hj,rfl⟩:=List.getElem_of_mem hx;exact hall j hj hj
  rw[ht,Bool.true_and];repeat' first|refine Vz ?_|intro _
  cases h2:V3 c
  ·repeat' first|refine Zz ?_|intro _
   refine d9 ?_;rfl
  ·repeat' first|refine Zz ?_|intro _
   refine d9 ?_;rfl⟩
abbrev Z9 (d:List Ent):AV:=.sl 2 (d.map C8) none
instance b5Y {d:List Ent}{k:Bs}{n:Wd}{xs:List AV}{id:Option Value}[hx:Ents xs d]:Ans prog GL 340 [.sl 2 xs id,str k,C9 n] (DOk d) (.tup [Z9 (R7 k n.n d).1,int (R7 k n.n d).2]):=⟨fun hd=>by
 refine qE func340 rfl ntmps340 rfl (fun _ hs=>?_);repeat' first|refine Vz ?_|intro _
 rw[zG];unfold R7;by_cases h:n.n=0
 ·rw[if_pos h];repeat' first|refine Zz ?_|intro _
  refine d9 ?_;rfl
 ·rw[if_neg h];repeat' first|refine Zz ?_|intro _
  refine d9 ?_;rfl⟩
theorem Zc {d:List Ent}{k:Bs}{n:Nat}(h:DOk d):DOk (R7 k n d).1:=by
 unfold R7;split
 ·exact h.drp _
 ·exact vP h
theorem a0L {d:List Ent}{k v:Bs}(h:(U2 d k v).2≠0):(U2 d k v).1=[]:=by
 unfold U2 at h ⊢;split
 ·rename_i h1;rw[if_pos h1] at h;exact absurd rfl h
 ·rfl
theorem ZQ {d:List Ent}{k:Bs}{n:Nat}(h:(R7 k n d).2≠0):(R7 k n d).1=[]:=by
 unfold R7 at h ⊢;split
 ·rename_i h1;rw[if_pos h1] at h;exact absurd rfl h
 ·rename_i h1;rw[if_neg h1] at h;exact a0L h
theorem dQ (n:Int):Imp (I8 [.lit (.slice none 0 0),int n]) (.tup [Z9 [],int n]):=(inferInstance:ImpR (.tup [.lit (.slice none 0 0),int n]) (.tup [.sl 2 [] none,int n])).imp
instance b5V {d:List Ent}{a b:Bs}{n m:Wd}{xs:List AV}{id:Option Value}[hx:Ents xs d]:Ans prog GL 267 [.sl 2 xs id,str a,C9 n,str b,C9 m] (DOk d) (.tup [Z9 (U6 (R7 a n.n) (R7 b m.n) d).1,int (U6 (R7 a n.n) (R7 b m.n) d).2]):=⟨fun hd=>by
 refine qE func267 rfl ntmps267 rfl (fun _ hs=>?_);repeat' first|refine Vz ?_|intro _
 unfold U6;have h2:=Zc (k:=a) (n:=n.n) hd;by_cases h:(R7 a n.n d).2=0
 ·rw[if_pos h];repeat' first|refine Zz ?_|intro _
  by_cases h3:(R7 b m.n (R7 a n.n d).1).2=0
  ·repeat' first|refine Zz ?_|intro _
   refine d9 ?_;rw[h3];rfl
  ·repeat' first|refine Zz ?_|intro _
   refine E9 ?_;rw[ZQ h3];exact dQ _
 ·rw[if_neg h];repeat' first|refine Zz ?_|intro _
  refine E9 ?_;rw[ZQ h];exact dQ _⟩

theorem JG {n:Nat}(h:T9 n=true):n<115792089237316195423570985008687907853269984665640564039457584007913129639936:=of_decide_eq_true h
attribute [local irreducible] M5 V3 T9
instance b6a {d:List Ent}{a c:Bs}{n:Wd}{xs:List AV}{id:Option Value}[hx:Ents xs d]:Ans prog GL 192 [.sl 2 xs id,str a,str c,C9 n] (DOk d) (.tup [Z9 (iI d a c n).1,int (iI d a c n).2]):=⟨fun hd=>by
 rw[a2d hd];refine qE func192 rfl ntmps192 rfl (fun _ hs=>?_);repeat' first|refine Zz ?_|intro _
 unfold TP;by_cases h1:M5 a=false
 ·rw[if_pos (.inl h1),h1];repeat' first|refine Zz ?_|intro _
  refine E9 ?_;exact dQ _
 have h1':M5 a=true:=by simpa using h1
 by_cases h2:V3 c=false
 ·rw[if_pos (.inr (.inl h2)),h1',h2];repeat' first|refine Zz ?_|intro _
  refine E9 ?_;exact dQ _
 have h2':V3 c=true:=by simpa using h2
 rw[h1',h2'];repeat' first|refine Zz ?_|intro _
 rw[zG];by_cases h3:n.n=0
 ·rw[if_pos (.inr (.inr h3))];repeat' first|refine Zz ?_|intro _
  refine E9 ?_;exact dQ _
 rw[if_neg (by rintro (h|h|h);exact absurd h dc;exact absurd h dc;exact h3 h)];repeat' first|refine Zz ?_|intro _
 cases h4:T9 ((D7 d (O4 c)).n+n.n)
 ·rw[if_pos (.inl rfl)];repeat' first|refine Zz ?_|intro _
  refine E9 ?_;exact dQ _
 repeat' first|refine Zz ?_|intro _
 cases h5:T9 ((D7 d (F7 a c)).n+n.n)
 ·rw[if_pos (.inr rfl)];repeat' first|refine Zz ?_|intro _
  refine E9 ?_;exact dQ _
 rw[if_neg dc];repeat' first|refine Zz ?_|intro _
 refine d9 ?_;rw[oK (JG h4),oK (JG h5)];rfl⟩
instance b6d {d:List Ent}{a c:Bs}{n:Wd}{xs:List AV}{id:Option Value}[hx:Ents xs d]:Ans prog GL 284 [.sl 2 xs id,str a,str c,C9 n] (DOk d) (.tup [Z9 (uV d a c n).1,int (uV d a c n).2]):=⟨fun hd=>by
 rw[a6G hd];refine qE func284 rfl ntmps284 rfl (fun _ hs=>?_);repeat' first|refine Zz ?_|intro _
 unfold WH;by_cases h1:M5 a=false
 ·rw[if_pos (.inl h1),h1];repeat' first|refine Zz ?_|intro _
  refine E9 ?_;exact dQ _
 have h1':M5 a=true:=by simpa using h1
 by_cases h2:V3 c=false
 ·rw[if_pos (.inr (.inl h2)),h1',h2];repeat' first|refine Zz ?_|intro _
  refine E9 ?_;exact dQ _
 have h2':V3 c=true:=by simpa using h2
 rw[h1',h2'];repeat' first|refine Zz ?_|intro _
 rw[zG];by_cases h3:n.n=0
 ·rw[if_pos (.inr (.inr h3))];repeat' first|refine Zz ?_|intro _
  refine E9 ?_;exact dQ _
 rw[if_neg (by rintro (h|h|h);exact absurd h dc;exact absurd h dc;exact h3 h)];repeat' first|refine Zz ?_|intro _
 by_cases h4:(D7 d (O4 c)).n<n.n
 ·rw[if_pos (.inl h4),dZ (Nat.not_le.2 h4)];repeat' first|refine Zz ?_|intro _
  refine E9 ?_;exact dQ _
 rw[dT (Nat.not_lt.1 h4)];repeat' first|refine Zz ?_|intro _
 by_cases h5:(D7 d (F7 a c)).n<n.n
 ·rw[if_pos (.inr h5),dZ (Nat.not_le.2 h5)];repeat' first|refine Zz ?_|intro _
  refine E9 ?_;exact dQ _
 rw[if_neg (by rintro (h|h);exact h4 h;exact h5 h),dT (Nat.not_lt.1 h5)];repeat' first|refine Zz ?_|intro _
 refine d9 ?_;rw[oK (Nat.lt_of_le_of_lt (Nat.sub_le _ _) (D7 d (O4 c)).lt),oK (Nat.lt_of_le_of_lt (Nat.sub_le _ _) (D7 d (F7 a c)).lt)];rfl⟩
instance b5Z {d:List Ent}{a b c:Bs}{n:Wd}{xs:List AV}{id:Option Value}[hx:Ents xs d]:Ans prog GL 193 [.sl 2 xs id,str a,str b,str c,C9 n] (DOk d) (.tup [Z9 (eQ d a b c n).1,int (eQ d a b c n).2]):=⟨fun hd=>by
 have h:=hx.out;subst h;rw[a1O hd];refine qE func193 rfl ntmps193 rfl (fun _ hs=>?_);repeat' first|refine Zz ?_|intro _
 unfold TG;by_cases h1:M5 a=false
 ·rw[if_pos (.inl h1),h1];repeat' first|refine Zz ?_|intro _
  refine E9 ?_;exact dQ _
 have h1':M5 a=true:=by simpa using h1
 by_cases h1b:M5 b=false
 ·rw[if_pos (.inr (.inl h1b)),h1',h1b];repeat' first|refine Zz ?_|intro _
  refine E9 ?_;exact dQ _
 have h1b':M5 b=true:=by simpa using h1b
 by_cases h2:V3 c=false
 ·rw[if_pos (.inr (.inr (.inl h2))),h1',h1b',h2];repeat' first|refine Zz ?_|intro _
  refine E9 ?_;exact dQ _
 have h2':V3 c=true:=by simpa using h2
 rw[h1',h1b',h2'];repeat' first|refine Zz ?_|intro _
 rw[zG];by_cases h3:n.n=0
 ·rw[if_pos (.inr (.inr (.inr h3)))];repeat' first|refine Zz ?_|intro _
  refine E9 ?_;exact dQ _
 rw[if_neg (by rintro (h|h|h|h);exact absurd h dc;exact absurd h dc;exact absurd h dc;exact h3 h)];repeat' first|refine Zz ?_|intro _
 by_cases h4:(D7 d (F7 a c)).n<n.n
 ·rw[if_pos h4,dZ (Nat.not_le.2 h4)];repeat' first|refine Zz ?_|intro _
  refine E9 ?_;exact dQ _
 rw[if_neg h4,dT (Nat.not_lt.1 h4)];repeat' first|refine Zz ?_|intro _
 by_cases h5:a=b
 ·rw[if_pos h5,dT h5];repeat' first|refine Zz ?_|intro _
  refine E9 ?_;exact(inferInstance:ImpR (.tup [.sl 2 (d.map C8) id,int 0]) (.tup [.sl 2 (d.map C8) none,int 0])).imp
 rw[if_neg h5,dZ h5];repeat' first|refine Zz ?_|intro _
 cases h6:T9 ((D7 d (F7 b c)).n+n.n)
 ·rw[if_pos rfl];repeat' first|refine Zz ?_|intro _
  refine E9 ?_;exact dQ _
 rw[if_neg dc];repeat' first|refine Zz ?_|intro _
 refine d9 ?_;rw[oK (Nat.lt_of_le_of_lt (Nat.sub_le _ _) (D7 d (F7 a c)).lt),oK (JG h6)];rfl⟩
end Go.Proofs.YtocpacdnjbjjmaaGreatDoor

namespace Go.Proofs.YtocpacdnjbjjmaaGreatDoor
open Go Go.RowKit Tw Av Go.Proofs.Tryz
def Does (f:FuncId)(cs:List Value)(m:List Av.Piece)(R:List Ent->List Ent × Int):Prop:=∀ d,DOk d->Av.Spec prog GL f (dA d::cs.map .lit) m fun u m'=>u=.tup [dA (R d).1,int (R d).2]/\m'=m
theorem TH {k:Bs}{n:Wd}:Av.Spec prog GL 358 [str k,C9 n] [] fun u m=>∃ g1 g2,u=D6 411 [.pointer (some ⟨g1,0,none⟩),.pointer (some ⟨g2,0,none⟩)]/\m=[.var g2 94 (C9 n),.var g1 9 (str k)]:=by
 refine qE func358 rfl ntmps358 rfl (fun _ hs=>?_);repeat' first|refine Vz ?_|intro _
 rename_i g1 g2;refine eY (vs:=[.pointer (some ⟨g1,0,none⟩),.pointer (some ⟨g2,0,none⟩)]) ?_;repeat' first|refine Vz ?_|intro _
 exact o5 _ ⟨g1,g2,rfl,rfl⟩ slr
theorem a2q {k:Bs}{n:Wd}:Av.Spec prog GL 361 [str k,C9 n] [] fun u m=>∃ g1 g2,u=D6 413 [.pointer (some ⟨g1,0,none⟩),.pointer (some ⟨g2,0,none⟩)]/\m=[.var g2 94 (C9 n),.var g1 9 (str k)]:=by
 refine qE func361 rfl ntmps361 rfl (fun _ hs=>?_);repeat' first|refine Vz ?_|intro _
 rename_i g1 g2;refine eY (vs:=[.pointer (some ⟨g1,0,none⟩),.pointer (some ⟨g2,0,none⟩)]) ?_;repeat' first|refine Vz ?_|intro _
 exact o5 _ ⟨g1,g2,rfl,rfl⟩ slr
theorem HY (n:Int):Imp (I8 [.agg 1 [.lit (.slice none 0 0)],int n]) (.tup [dA [],int n]):=(inferInstance:ImpR (.tup [.agg 1 [.lit (.slice none 0 0)],int n]) (.tup [.agg 1 [.sl 2 [] none],int n])).imp
attribute [local irreducible] T9
theorem TI {k:Bs}{n:Wd}{g1 g2:Nat}:Does 411 [.pointer (some ⟨g1,0,none⟩),.pointer (some ⟨g2,0,none⟩)] [.var g2 94 (C9 n),.var g1 9 (str k)] (eT k n):=fun d hd=>by
 show Av.Spec _ _ _ [dA d,ptr g1,ptr g2] _ _;refine qE func411 rfl ntmps411 rfl (fun _ hs=>?_);repeat' first|refine Zz ?_|intro _
 unfold eT;cases h:T9 ((D7 d k).n+n.n)
 ·rw[if_neg dc];repeat' first|refine Zz ?_|intro _
  refine U8 _ _ (HY _) ⟨rfl,rfl⟩ ?_;exact r9
 ·rw[if_pos rfl];repeat' first|refine Zz ?_|intro _
  refine U8 _ _ (Imp.of_eq ?_) ⟨rfl,rfl⟩ ?_
  ·rw[oK (JG h)];rfl
  ·exact r9
theorem a2r {k:Bs}{n:Wd}{g1 g2:Nat}:Does 413 [.pointer (some ⟨g1,0,none⟩),.pointer (some ⟨g2,0,none⟩)] [.var g2 94 (C9 n),.var g1 9 (str k)] (dU k n):=fun d hd=>by
 show Av.Spec _ _ _ [dA d,ptr g1,ptr g2] _ _;have hw:(X4 ((D7 d k).n-n.n)).n=(D7 d k).n-n.n:=oK (Nat.lt_of_le_of_lt (Nat.sub_le _ _) (D7 d k).lt);refine qE func413 rfl ntmps413 rfl (fun _ hs=>?_);repeat' first|refine Zz ?_|intro _
 unfold dU;by_cases h:(D7 d k).n<n.n
 ·rw[if_pos h,dZ (Nat.not_le.2 h)];repeat' first|refine Zz ?_|intro _
  refine U8 _ _ (HY _) ⟨rfl,rfl⟩ ?_;exact r9
 rw[if_neg h,dT (Nat.not_lt.1 h)];repeat' first|refine Zz ?_|intro _
 rw[hw];by_cases h2:(D7 d k).n=n.n
 ·rw[if_pos h2,dT (show (D7 d k).n-n.n=0 by omega)];repeat' first|refine Zz ?_|intro _
  refine U8 _ _ (Imp.of_eq rfl) ⟨rfl,rfl⟩ ?_;exact r9
 ·rw[if_neg h2,dZ (show ¬ (D7 d k).n-n.n=0 by omega)];repeat' first|refine Zz ?_|intro _
  refine U8 _ _ (Imp.of_eq ?_) ⟨rfl,rfl⟩ ?_
  ·rw[hw];rfl
  ·exact r9
end Go.Proofs.YtocpacdnjbjjmaaGreatDoor

namespace Go.Proofs.YtocpacdnjbjjmaaGreatDoor
open Go Go.RowKit Tw Av Go.Proofs.Tryz
def dAt (R1 R2:List Ent->List Ent × Int)(d:List Ent):Nat->List Ent
 | 0=>d
 | 1=>(R1 d).1
 | _=>(R2 (R1 d).1).1
theorem Li {f1 f2:FuncId}[FnB prog f1][FnB prog f2]{cs1 cs2:List Value}{m1 m2:List Av.Piece}{R1 R2:List Ent->List Ent × Int}{d:List Ent}(h1:Does f1 cs1 m1 R1)(h2:Does f2 cs2 m2 R2)(hc1:∀ v∈cs1,v.oneCell'=true)(hc2:∀ v∈cs2,v.oneCell'=true)(hd:DOk d)(hd1:DOk (R1 d).1) :
  Av.Spec prog GL 357 [dA d,.sl 1 [D6 f1 cs1,D6 f2 cs2] none] (m1++m2) fun u m=>u=.tup [dA (U6 R1 R2 d).1,int (U6 R1 R2 d).2]/\m=m1++m2:=by
 refine qE func357 rfl ntmps357 rfl (fun _ hs=>?_);repeat' first|refine Vz ?_|intro _
 rename_i g2 g4;refine z8 (α:=Nat) (fun i=>[(2,ptr g2),(4,ptr g4),(5,int 0),(6,int 0),(9,.sl 1 [D6 f1 cs1,D6 f2 cs2] none),(10,int 2),(11,int i)]) (fun i=>[.var g4 44 (.agg 1 [.lit (.slice none 0 0)]),.var g2 44 (dA (dAt R1 R2 d i))]++(m1++m2))
  (fun i=>i<=2/\(1<=i->(R1 d).2=0)/\(2<=i->(R2 (R1 d).1).2=0)) (fun i=>2-i) 0 ⟨rfl,rfl,rfl,rfl,rfl,rfl,rfl,trivial⟩ slr ⟨dc,fun h=>absurd h dc,fun h=>absurd h dc⟩ ?_
 rintro i ⟨hi,f1',f2'⟩;rcases i with _|_|_|i
 ·repeat' first|refine Zz ?_|intro _
  refine kP (args:=[dA d]) (cs:=cs1) m1 ([Av.Piece.var g4 44 (.agg 1 [.lit (.slice none 0 0)]),Av.Piece.var g2 44 (dA (d))]++m2) (by rw[hs];exact h1 d hd) (fun u m' hh=>?_) (List.perm_append_comm_assoc _ _ _) (hcs:=hc1);obtain⟨rfl,rfl⟩:=hh;refine nJ (fun ok w h=>h.perm (m':=[Av.Piece.var g4 44 (.agg 1 [.lit (.slice none 0 0)]),Av.Piece.var g2 44 (dA (d))]++(m'++m2)) (List.perm_append_comm_assoc _ _ _)) ?_;by_cases he:(R1 d).2=0
  ·repeat' first|refine Zz ?_|intro _
   refine M6 6 (v:=int (R1 d).2) (v':=int 0) (Imp.of_eq (by rw[he])) ?_;refine o6 1 ⟨rfl,rfl,rfl,rfl,rfl,rfl,rfl,trivial⟩ slr ⟨dc,fun _=>he,fun h=>absurd h dc⟩ dc
  ·repeat' first|refine Zz ?_|intro _
   refine o5 (m'++m2) ⟨?_,rfl⟩ ((List.sublist_cons_self _ _).trans (List.Sublist.refl _ |>.cons _));unfold U6;rw[if_neg he];rfl
 ·have he1:=f1' dc;repeat' first|refine Zz ?_|intro _
  refine kP (args:=[dA (R1 d).1]) (cs:=cs2) m2 ([Av.Piece.var g4 44 (.agg 1 [.lit (.slice none 0 0)]),Av.Piece.var g2 44 (dA ((R1 d).1))]++m1) (by rw[hs];exact h2 _ hd1) (fun u m' hh=>?_) ?_ (hcs:=hc2);rotate_left
  ·exact(List.perm_append_comm (l₁:=[Av.Piece.var g4 44 (.agg 1 [.lit (.slice none 0 0)]),Av.Piece.var g2 44 (dA ((R1 d).1))]++m1) (l₂:=m2)).trans lpr |> fun h=>(by rw[<- laa];exact h)
  obtain⟨rfl,rfl⟩:=hh;refine nJ (fun ok w h=>h.perm (m':=[Av.Piece.var g4 44 (.agg 1 [.lit (.slice none 0 0)]),Av.Piece.var g2 44 (dA ((R1 d).1))]++(m1++m')) (by rw[<- laa];exact List.perm_append_comm)) ?_;have ht:U6 R1 R2 d=R2 (R1 d).1:=by
   unfold U6;rw[if_pos he1]
  rw[ht];by_cases he:(R2 (R1 d).1).2=0
  ·repeat' first|refine Zz ?_|intro _
   refine M6 6 (v:=int (R2 (R1 d).1).2) (v':=int 0) (Imp.of_eq (by rw[he])) ?_;refine o6 2 ⟨rfl,rfl,rfl,rfl,rfl,rfl,rfl,trivial⟩ slr ⟨dc,fun _=>he1,fun _=>he⟩ dc
  ·repeat' first|refine Zz ?_|intro _
   refine o5 (m1++m') ⟨rfl,rfl⟩ ?_;exact(List.Sublist.refl _ |>.cons _).cons _
 ·have he1:=f1' dc;have he2:=f2' dc;have ht:U6 R1 R2 d=R2 (R1 d).1:=by
   unfold U6;rw[if_pos he1]
  rw[ht,he2];repeat' first|refine Zz ?_|intro _
  refine o5 (m1++m2) ⟨rfl,rfl⟩ ?_;exact(List.Sublist.refl _ |>.cons _).cons _
 ·omega

attribute [local irreducible] M5 V3 T9
theorem Fq {a c:Bs}{n:Wd}:([a].all M5&&(V3 c&&decide (n.n≠0)))=false↔M5 a=false\/V3 c=false\/n.n=0:=by
 simp only[List.all_cons,List.all_nil,Bool.and_true];by_cases h:n.n=0 <;> cases M5 a <;> cases V3 c <;> simp[h]
theorem Fp {a b c:Bs}{n:Wd}:([a,b].all M5&&(V3 c&&decide (n.n≠0)))=false↔M5 a=false\/M5 b=false\/V3 c=false\/n.n=0:=by
 simp only[List.all_cons,List.all_nil,Bool.and_true];by_cases h:n.n=0 <;> cases M5 a <;> cases M5 b <;> cases V3 c <;> simp[h]
theorem LH {g1 g2:Nat}:∀ v∈[Value.pointer (some ⟨g1,0,none⟩),.pointer (some ⟨g2,0,none⟩)],v.oneCell'=true:=by simp[Value.oneCell']
instance b8N {d:List Ent}{a c:Bs}{n:Wd}{xs:List AV}[hx:Ents xs d]:Ans prog GL 299 [.agg 1 [.sl 2 xs none],str a,str c,C9 n] (DOk d) (.tup [dA (iI d a c n).1,int (iI d a c n).2]):=⟨fun hd=>by
 have h:=hx.out;subst h;refine qE func299 rfl ntmps299 rfl (fun _ hs=>?_);repeat' first|refine Zz ?_|intro _
 unfold iI;cases h1:[a].all M5&&(V3 c&&decide (n.n≠0))
 ·rw[if_pos (Fq.1 h1)];repeat' first|refine Zz ?_|intro _
  refine E9 ?_;exact HY _
 rw[if_neg (fun e=>by rw[Fq.2 e] at h1;cases h1)];repeat' first|refine Zz ?_|intro _
 cases h2:T9 ((D7 d (F7 a c)).n+n.n)
 ·rw[if_pos rfl];repeat' first|refine Zz ?_|intro _
  refine E9 ?_;exact HY _
 rw[if_neg dc];repeat' (first|refine iN ?_|refine V7 ?_|refine bZ ?_|refine R9 ?_|intro _)
 refine wR [0,1,2,3,5,6,8,4,7,9,10,11,12,13,14,15] kr rfl hs kr ?_;repeat' first|refine Vz ?_|intro _
 apply V8 [];exact rfl;exact rfl;kernel_rfl;kernel_rfl;intro s' hs';refine M3 (args:=[str (O4 c),C9 n]) [] _ (by rw[hs'];exact TH) (fun u m1 hh=>?_) lpr;obtain⟨k1,n1,rfl,rfl⟩:=hh;refine j4 (U4 [] [.var n1 94 (C9 n),.var k1 9 (str (O4 c))] rfl rfl lpr rfl ?_);repeat' first|refine Vz ?_|intro _
 apply V8 [];exact rfl;exact rfl;kernel_rfl;kernel_rfl;intro s' hs';refine M3 (args:=[str (F7 a c),C9 n]) [] _ (by rw[hs'];exact TH) (fun u m1 hh=>?_) lpr;obtain⟨k2,n2,rfl,rfl⟩:=hh;refine j4 (U4 [] [.var n2 94 (C9 n),.var k2 9 (str (F7 a c))] rfl rfl lpr rfl ?_);repeat' first|refine Vz ?_|intro _
 apply u7 [4,5,6,7];exact rfl;exact rfl;kernel_rfl;intro s' hs';refine M3 (args:=[dA d,.sl 1 [D6 411 [.pointer (some ⟨k1,0,none⟩),.pointer (some ⟨n1,0,none⟩)],D6 411 [.pointer (some ⟨k2,0,none⟩),.pointer (some ⟨n2,0,none⟩)]] none]) [.var n1 94 (C9 n),.var k1 9 (str (O4 c)),.var n2 94 (C9 n),.var k2 9 (str (F7 a c))] [] (by rw[hs'];exact Li (m1:=[.var n1 94 (C9 n),.var k1 9 (str (O4 c))]) (m2:=[.var n2 94 (C9 n),.var k2 9 (str (F7 a c))]) TI TI LH LH hd (MB hd)) (fun u m1 hh=>?_) lpr;obtain⟨rfl,rfl⟩:=hh;exact j4 (o7 rfl rfl);repeat' first|refine Vz ?_|intro _
 refine d9 ?_;rfl⟩
instance b8M {d:List Ent}{a b c:Bs}{n:Wd}{xs:List AV}[hx:Ents xs d]:Ans prog GL 301 [.agg 1 [.sl 2 xs none],str a,str b,str c,C9 n] (DOk d) (.tup [dA (eQ d a b c n).1,int (eQ d a b c n).2]):=⟨fun hd=>by
 have h:=hx.out;subst h;refine qE func301 rfl ntmps301 rfl (fun _ hs=>?_);repeat' first|refine Zz ?_|intro _
 unfold eQ;cases h1:[a,b].all M5&&(V3 c&&decide (n.n≠0))
 ·rw[if_pos (Fp.1 h1)];repeat' first|refine Zz ?_|intro _
  refine E9 ?_;exact HY _
 rw[if_neg (fun e=>by rw[Fp.2 e] at h1;cases h1)];repeat' (first|refine iN ?_|refine V7 ?_|refine bZ ?_|refine R9 ?_|intro _)
 refine wR [0,1,2,4,6,7,9,3,5,8,10,11,12,13,14,15,16,17,18] kr rfl hs kr ?_;repeat' first|refine Vz ?_|intro _
 apply Em [44] [];exact rfl;exact rfl;kernel_rfl;kernel_rfl;kernel_rfl;exact⟨⟨_,inferInstance⟩,trivial⟩;intro s' hs';refine M3 (args:=[str (F7 a c),C9 n]) [] _ (by rw[hs'];exact a2q) (fun u m1 hh=>?_) lpr;obtain⟨k1,n1,rfl,rfl⟩:=hh;refine j4 (U4 [] [.var n1 94 (C9 n),.var k1 9 (str (F7 a c))] rfl rfl lpr rfl ?_);repeat' first|refine Vz ?_|intro _
 apply Em [44] [];exact rfl;exact rfl;kernel_rfl;kernel_rfl;kernel_rfl;exact⟨⟨_,inferInstance⟩,trivial⟩;intro s' hs';refine M3 (args:=[str (F7 b c),C9 n]) [] _ (by rw[hs'];exact TH) (fun u m1 hh=>?_) lpr;obtain⟨k2,n2,rfl,rfl⟩:=hh;refine j4 (U4 [] [.var n2 94 (C9 n),.var k2 9 (str (F7 b c))] rfl rfl lpr rfl ?_);repeat' first|refine Vz ?_|intro _
 apply u7 [3,4,5,6];exact rfl;exact rfl;kernel_rfl;intro s' hs';refine M3 (args:=[dA d,.sl 1 [D6 413 [.pointer (some ⟨k1,0,none⟩),.pointer (some ⟨n1,0,none⟩)],D6 411 [.pointer (some ⟨k2,0,none⟩),.pointer (some ⟨n2,0,none⟩)]] none]) [.var n1 94 (C9 n),.var k1 9 (str (F7 a c)),.var n2 94 (C9 n),.var k2 9 (str (F7 b c))] [] (by rw[hs'];exact Li (m1:=[.var n1 94 (C9 n),.var k1 9 (str (F7 a c))]) (m2:=[.var n2 94 (C9 n),.var k2 9 (str (F7 b c))]) a2r TI LH LH hd (MJ hd)) (fun u m1 hh=>?_) lpr;obtain⟨rfl,rfl⟩:=hh;exact j4 (o7 rfl rfl)
 iterate 3 refine AZ ?_
 apply a1B [44];kernel_rfl;kernel_rfl;kernel_rfl;exact⟨⟨_,inferInstance⟩,trivial⟩;intro g3;repeat' first|refine Vz ?_|intro _
 generalize hR:U6 (dU (F7 a c) n) (eT (F7 b c) n) d=R;by_cases hab:a=b
 ·rw[dT hab];repeat' first|refine Vz ?_|intro _
  by_cases he:R.2=16
  ·rw[dZ (nni he)];repeat' first|refine Vz ?_|intro _
   refine d9 ?_;simp[hab,he];rfl
  ·rw[dT he];repeat' first|refine Vz ?_|intro _
   refine d9 ?_;simp[hab,he];rfl
 ·rw[dZ hab];repeat' first|refine Vz ?_|intro _
  refine d9 ?_;simp[hab];rfl⟩
end Go.Proofs.YtocpacdnjbjjmaaGreatDoor

namespace Go.Proofs.YtocpacdnjbjjmaaGreatDoor
open Go Go.RowKit Tw Av Go.Proofs.Tryz
instance b6P {q:Int}{s k d:Bs}{a:Wd}{f g:Bs}{h t:Int}:Ans prog GL 283 [.agg 12 [int q,str s,str k,.agg 7 [str d,C9 a,str f,str g],int h,int t]] (s.length<=1000000000/\d.length<=1000000000) (j3 (sS ⟨q,s,k,d,a,f,g,h,t⟩)):=⟨fun hp=>by
 refine qE func283 rfl ntmps283 rfl (fun _ hs=>?_);repeat' first|refine Zz ?_|intro _
 refine d9 ?_;rfl⟩
theorem Pj {s d:Bs}(h:qO s d=true):zY s d=d.drop (s.length+1):=by
 unfold zY;rw[if_pos h]
instance b4K {q:Int}{s k d:Bs}{a:Wd}{f g:Bs}{h t:Int}:Ans prog GL 387 [.agg 12 [int q,str s,str k,.agg 7 [str d,C9 a,str f,str g],int h,int t]] (s.length<=1000000000/\d.length<=1000000000/\k.length<=1000000000) (str (uY ⟨q,s,k,d,a,f,g,h,t⟩)):=⟨fun hp=>by
 obtain⟨h1,h2,h3⟩:=hp;show Av.Spec _ _ _ _ _ fun v m'=>v=str (if qO s d=true then d.drop (s.length+1) else k++[47]++d)/\m'=[];refine qE func387 rfl ntmps387 rfl (fun _ hs=>?_);repeat' first|refine Zz ?_|intro _
 cases hr:qO s d
 ·rw[if_neg (show ¬ false=true by decide)];repeat' first|refine Zz ?_|intro _
  refine d9 ?_;rfl
 ·rw[if_pos rfl,<- Pj hr];repeat' first|refine Zz ?_|intro _
  refine d9 ?_;rfl⟩
instance b6Q {q:Int}{s k d:Bs}{a:Wd}{f g:Bs}{h t:Int}:Ans prog GL 286 [.agg 12 [int q,str s,str k,.agg 7 [str d,C9 a,str f,str g],int h,int t]] (s.length<=1000000000/\d.length<=1000000000/\k.length<=1000000000) (str (uY ⟨q,s,k,d,a,f,g,h,t⟩)):=⟨fun hp=>by
 obtain⟨h1,h2,h3⟩:=hp;have hl:(k++[47]).length=k.length+1:=by rw[lla];rfl
 show Av.Spec _ _ _ _ _ fun v m'=>v=str (if qO s d=true then d.drop (s.length+1) else k++[47]++d)/\m'=[];refine qE func286 rfl ntmps286 rfl (fun _ hs=>?_);repeat' first|refine Zz ?_|intro _
 cases hr:qO s d
 ·rw[if_neg (show ¬ false=true by decide)];repeat' first|refine Zz ?_|intro _
  refine d9 ?_;rfl
 ·rw[if_pos rfl,<- Pj hr];repeat' first|refine Zz ?_|intro _
  refine d9 ?_;rfl⟩

section
variable {e:List Ent} {q:Int} {s k d:Bs} {a:Wd} {f g:Bs} {h t:Int} {g1 g2 g3:Nat} {z:Bs}
end
theorem a1r {c:Bool}{α:Type}{a b:α}:(if true=false\/c=false then a else b)=if c=false then a else b:=by cases c <;> rfl
theorem a7j {q:Int}{s k d:Bs}{a:Wd}{f g:Bs}{h t:Int}(h1:d.length<=400000000)(h2:k.length<=400000000):(uY ⟨q,s,k,d,a,f,g,h,t⟩).length<=1000000000:=by
 unfold uY;split
 ·rw[List.length_drop];show d.length-_<=_;omega
 ·rw[lla,lla];show k.length+1+d.length<=_;omega
instance b6N {e:List Ent}{q:Int}{s k d:Bs}{a:Wd}{f g:Bs}{h t:Int}{xs:List AV}{id:Option Value}[hx:Ents xs e]:Ans prog GL 212 [.sl 2 xs id,.agg 12 [int q,str s,str k,.agg 7 [str d,C9 a,str f,str g],int h,int t]] (DOk e/\s.length<=1000000000/\k.length<=1000000000/\d.length<=1000000000/\f.length<=1000000000/\g.length<=1000000000) (.tup [Z9 (mM e ⟨q,s,k,d,a,f,g,h,t⟩).1,int (mM e ⟨q,s,k,d,a,f,g,h,t⟩).2]):=⟨fun hp=>by
 obtain⟨hd,hs1,hk1,hd1,hf1,hg1⟩:=hp;show Av.Spec _ _ _ _ _ fun v m'=>v=.tup [Z9 (if dJ ⟨q,s,k,d,a,f,g,h,t⟩=false then ([],1) else if sS ⟨q,s,k,d,a,f,g,h,t⟩=true then uV e f d a else eQ e f (CB s) d a).1,int (if dJ ⟨q,s,k,d,a,f,g,h,t⟩=false then ([],1) else if sS ⟨q,s,k,d,a,f,g,h,t⟩=true then uV e f d a else eQ e f (CB s) d a).2]/\m'=[];refine qE func212 rfl ntmps212 rfl (fun _ hs=>?_);repeat' first|refine Zz ?_|intro _
 unfold nE;cases hc:dJ ⟨q,s,k,d,a,f,g,h,t⟩
 ·rw[if_neg (show ¬ false=true by decide),if_pos rfl,dT (show (1:Int)≠0 by decide)];repeat' first|refine Zz ?_|intro _
  refine E9 ?_;exact dQ _
 rw[if_pos rfl,if_neg (show ¬ true=false by decide),dZ (show ¬ (0:Int)≠0 by decide)];repeat' first|refine Zz ?_|intro _
 cases hh:sS ⟨q,s,k,d,a,f,g,h,t⟩
 ·rw[if_neg (show ¬ false=true by decide)];repeat' first|refine Zz ?_|intro _
  refine d9 ?_;rfl
 ·rw[if_pos rfl];repeat' first|refine Zz ?_|intro _
  refine d9 ?_;rfl⟩
instance b6O {e:List Ent}{q:Int}{s k d:Bs}{a:Wd}{f g:Bs}{h t:Int}{xs:List AV}{id:Option Value}[hx:Ents xs e]:Ans prog GL 215 [.sl 2 xs id,.agg 12 [int q,str s,str k,.agg 7 [str d,C9 a,str f,str g],int h,int t]] (DOk e/\s.length<=400000000/\k.length<=400000000/\d.length<=400000000/\f.length<=400000000/\g.length<=400000000) (.tup [Z9 (bV e ⟨q,s,k,d,a,f,g,h,t⟩).1,int (bV e ⟨q,s,k,d,a,f,g,h,t⟩).2]):=⟨fun hp=>by
 obtain⟨hd,hs1,hk1,hd1,hf1,hg1⟩:=hp;have hal:(uY ⟨q,s,k,d,a,f,g,h,t⟩).length<=1000000000:=a7j hd1 hk1;refine qE func215 rfl ntmps215 rfl (fun _ hs=>?_);repeat' first|refine Zz ?_|intro _
 generalize hz:uY ⟨q,s,k,d,a,f,g,h,t⟩=z at hal ⊢;have hR:bV e ⟨q,s,k,d,a,f,g,h,t⟩=if W9 z=false\/dJ ⟨q,s,k,d,a,f,g,h,t⟩=false then ([],1) else if sS ⟨q,s,k,d,a,f,g,h,t⟩=true then eQ e (CB k) g z a else iI e g z a:=by
  unfold bV;rw[hz]
 rw[hR];repeat' first|refine Zz ?_|intro _
 unfold nE;cases hc:dJ ⟨q,s,k,d,a,f,g,h,t⟩
 ·rw[if_neg (show ¬ false=true by decide),if_pos (.inr rfl),dT (show (1:Int)≠0 by decide)];repeat' first|refine Zz ?_|intro _
  refine E9 ?_;exact dQ _
 rw[if_pos rfl,dZ (show ¬ (0:Int)≠0 by decide)];cases hb:W9 z
 ·rw[if_pos (.inl rfl)];repeat' first|refine Zz ?_|intro _
  refine E9 ?_;exact dQ _
 rw[a1r,if_neg (show ¬ true=false by decide)];repeat' first|refine Zz ?_|intro _
 cases hh:sS ⟨q,s,k,d,a,f,g,h,t⟩
 ·rw[if_neg (show ¬ false=true by decide)];repeat' first|refine Zz ?_|intro _
  refine d9 ?_;rfl
 ·rw[if_pos rfl];repeat' first|refine Zz ?_|intro _
  refine d9 ?_;rfl⟩

theorem Dc:pF []=10:=by rfl
theorem Co:pE []=10:=by rfl
theorem a2B:rE []=10:=by rfl
theorem PV {d:List Ent}{k:Bs}(h:(gO d k).isSome=false):Q3 d k=[]:=by
 unfold Q3;cases hg:gO d k with
 | none=>rfl
 | some v=>rw[hg] at h;cases h
theorem RQ {s:Bs}(h:pF s≠0):qU s=mD:=by
 unfold pF at h;unfold qU;split at h
 ·exact(h rfl).elim
 ·rename_i hn;rw[if_neg hn]
theorem Cm {s:Bs}(h:pE s≠0):kD s=vD:=by
 unfold pE at h;unfold kD;split at h
 ·exact(h rfl).elim
 ·rename_i hn;rw[if_neg hn]
theorem a0w {s:Bs}(h:pF s=0):aN (qU s)=true:=by
 unfold pF at h;unfold qU;split at h
 ·rename_i hn;rw[if_pos hn];unfold FF at hn;rw[bet,bet] at hn;exact hn.2.2
 ·cases h
theorem a0v (s:Bs):aN (qU s)=true\/qU s=mD:=by
 by_cases h:pF s=0
 ·exact .inl (a0w h)
 ·exact .inr (RQ h)
theorem a2y {l:List Sta}(h:l≠[]):eU l∈l:=by
 rcases List.eq_nil_or_concat l with rfl|⟨l',a,rfl⟩
 ·exact(h rfl).elim
 ·unfold eU;simp
structure CliF (x:Cli):Prop where
 ok:CliOk x
 w:CliW x
 r:Rise x.l
 n:x.l.length<=32
theorem PE:CliF mD:=⟨⟨dc,dc,dc,dc⟩,⟨dc,dc,fun s h=>by cases h⟩,List.Pairwise.nil,dc⟩
theorem Fh {x:Cli}(h:aN x=true):CliF x:=by
 obtain⟨⟨h1,h2,h3,h4,h5⟩,h6⟩:=Pq.1 h;have hc:=a2g h;have hb:∀ s∈x.l,1<=s.h/\s.h<=1099511627776/\0<=s.t/\s.t<=1099511627776:=fun s hs=>by
  obtain⟨_,_,c3,c4,c5,c6⟩:=a6k.1 (hc s hs);exact⟨c3,c4,c5,c6⟩
 have hne:x.l≠[]:=fun e=>by rw[e] at h4;simp at h4
 have hl:=hb _ (a2y hne);have step:∀ i (hi:i+1<x.l.length),x.l[i].h<x.l[i+1].h/\x.l[i].t<=x.l[i+1].t:=fun i hi=>by
  have:=h6 (i+1) hi;unfold pR at this;rw[bet,Bool.or_eq_true] at this;rcases this.2 with h|h
  ·simp at h
  ·rw[show x.l.getD (i+1-1) X3=x.l[i] by simp[List.getD,show i<x.l.length by omega],show x.l.getD (i+1) X3=x.l[i+1] by simp[List.getD,hi]] at h;unfold fI at h;simpa using h
 have far:∀ d i (hi:i+1+d<x.l.length),x.l[i].h<x.l[i+1+d].h/\x.l[i].t<=x.l[i+1+d].t:=by
  intro d
  induction d with
  | zero=>exact fun i hi=>step i hi
  | succ d ih=>
   intro i hi;have a:=ih i om;have b:=step (i+1+d) om;exact⟨Int.lt_trans a.1 b.1,Int.le_trans a.2 b.2⟩
 refine⟨⟨om,om,om,om⟩,⟨om,om,fun s hs=>by
  have:=hb s hs;omega⟩,?_,h5⟩
 unfold Rise;rw[List.pairwise_iff_getElem];intro i j hi hj hij;have:=far (j-i-1) i om;simpa[show i+1+(j-i-1)=j by omega] using this
theorem VX (d:List Ent)(i:Bs):CliF (aA d i):=by
 unfold aA;rcases a0v (Q3 d (J3 [67] i)) with h|h
 ·exact Fh h
 ·rw[h];exact PE
theorem Hr {b:Bool}:Imp (I8 [.agg 5 [.lit (.string ⟨#[]⟩),.lit (.string ⟨#[]⟩),.lit (.int .i64 0),.lit (.bool false),.lit (.slice none 0 0)],j3 b]) (.tup [rO mD,j3 b]):=(inferInstance:ImpR (.tup [.agg 5 [.lit (.string ⟨#[]⟩),.lit (.string ⟨#[]⟩),.lit (.int .i64 0),.lit (.bool false),.lit (.slice none 0 0)],j3 b]) (.tup [.agg 5 [str [],str [],int 0,j3 false,.sl 34 [] none],j3 b])).imp
instance b8f {d:List Ent}{i:Bs}{xs:List AV}{id:Option Value}[hx:Ents xs d]:Ans prog GL 302 [.agg 1 [.sl 2 xs id],str i] (DOk d) (.tup [rO (aA d i),j3 (V6 d i)]):=⟨fun hd=>by
 have hv:=hd.val (J3 [67] i);refine qE func302 rfl ntmps302 rfl (fun _ hs=>?_);repeat' first|refine Zz ?_|intro _
 refine d9 ?_;rfl⟩
instance b6L {d:List Ent}{i:Bs}{xs:List AV}{id:Option Value}[hx:Ents xs d]:Ans prog GL 194 [.sl 2 xs id,str i] (DOk d) (.tup [rO (aA d i),j3 (V6 d i)]):=⟨fun hd=>by
 have hv:=hd.val (J3 [67] i);unfold aA V6;refine qE func194 rfl ntmps194 rfl (fun _ hs=>?_);repeat' first|refine Zz ?_|intro _
 cases hg:(gO d (J3 [67] i)).isSome
 ·have hn:=PV hg;rw[hn,Dc,RQ (by rw[Dc];decide)];repeat' first|refine Zz ?_|intro _
  refine E9 ?_;exact Hr
 ·by_cases he:pF (Q3 d (J3 [67] i))=0
  ·rw[dT he];repeat' first|refine Zz ?_|intro _
   rw[dZ (nni he)];repeat' first|refine Zz ?_|intro _
   refine d9 ?_;rfl
  ·rw[dZ he,RQ he];repeat' first|refine Zz ?_|intro _
   rw[dT he];repeat' first|refine Zz ?_|intro _
   refine E9 ?_;exact Hr⟩
instance b8e {d:List Ent}{k:Bs}{xs:List AV}{id:Option Value}[hx:Ents xs d]:Ans prog GL 255 [.agg 1 [.sl 2 xs id],str k] (DOk d) (.tup [GX (kD (Q3 d k)),j3 (decide (pE (Q3 d k)=0))]):=⟨fun hd=>by
 have hv:=hd.val k;refine qE func255 rfl ntmps255 rfl (fun _ hs=>?_);repeat' first|refine Zz ?_|intro _
 refine d9 ?_;rfl⟩
instance b8g {d:List Ent}{i:Bs}{xs:List AV}{id:Option Value}[hx:Ents xs d]:Ans prog GL 185 [.agg 1 [.sl 2 xs id],str i] (DOk d) (.tup [GX (H5 d [72] i),j3 (O0 d [72] i)]):=⟨fun hd=>by
 refine qE func185 rfl ntmps185 rfl (fun _ hs=>?_);repeat' first|refine Zz ?_|intro _
 refine d9 ?_;rfl⟩
instance b6I {d:List Ent}{k i:Bs}{xs:List AV}{id:Option Value}[hx:Ents xs d]:Ans prog GL 151 [.sl 2 xs id,str k,str i] (DOk d/\k.length<=1000000000) (.tup [GX (H5 d k i),j3 (O0 d k i)]):=⟨fun hp=>by
 obtain⟨hd,hk⟩:=hp;have hv:=hd.val (J3 k i);unfold H5 O0;refine qE func151 rfl ntmps151 rfl (fun _ hs=>?_);repeat' first|refine Zz ?_|intro _
 cases hg:(gO d (J3 k i)).isSome
 ·have hn:=PV hg;rw[hn,Co,Cm (by rw[Co];decide)];repeat' first|refine Zz ?_|intro _
  refine d9 ?_;rfl
 ·by_cases he:pE (Q3 d (J3 k i))=0
  ·rw[dT he];repeat' first|refine Zz ?_|intro _
   rw[dZ (nni he)];repeat' first|refine Zz ?_|intro _
   refine d9 ?_;rfl
  ·rw[dZ he,Cm he];repeat' first|refine Zz ?_|intro _
   rw[dT he];repeat' first|refine Zz ?_|intro _
   refine d9 ?_;rfl⟩
instance b8d {d:List Ent}{i:Bs}{xs:List AV}{id:Option Value}[hx:Ents xs d]:Ans prog GL 315 [.agg 1 [.sl 2 xs id],str i] (DOk d) (int (dP d i)):=⟨fun hd=>by
 have hv:=hd.val (J3 [78] i);unfold dP;refine qE func315 rfl ntmps315 rfl (fun _ hs=>?_);repeat' first|refine Zz ?_|intro _
 by_cases he:rE (Q3 d (J3 [78] i))=0
 ·rw[if_pos he,dZ (nni he)];repeat' first|refine Zz ?_|intro _
  refine d9 ?_;rfl
 ·rw[if_neg he,dT he];repeat' first|refine Zz ?_|intro _
  refine d9 ?_;rfl⟩
instance b6F {d:List Ent}{i:Bs}{xs:List AV}{id:Option Value}[hx:Ents xs d]:Ans prog GL 208 [.sl 2 xs id,str i] (DOk d) (int (dP d i)):=⟨fun hd=>by
 have hv:=hd.val (J3 [78] i);unfold dP;refine qE func208 rfl ntmps208 rfl (fun _ hs=>?_);repeat' first|refine Zz ?_|intro _
 cases hg:(gO d (J3 [78] i)).isSome
 ·have hn:=PV hg;rw[hn,if_neg (by rw[a2B];decide)];repeat' first|refine Zz ?_|intro _
  refine d9 ?_;rfl
 ·by_cases he:rE (Q3 d (J3 [78] i))=0
  ·rw[if_pos he];repeat' first|refine Zz ?_|intro _
   rw[dZ (nni he)];repeat' first|refine Zz ?_|intro _
   refine d9 ?_;rfl
  ·rw[if_neg he];repeat' first|refine Zz ?_|intro _
   rw[dT he];repeat' first|refine Zz ?_|intro _
   refine d9 ?_;rfl⟩

attribute [local irreducible] V6 O0
instance b8c {d:List Ent}{i:Bs}{hh t h:Int}{xs:List AV}{id:Option Value}[hx:Ents xs d]:Ans prog GL 394 [.agg 3 [.agg 1 [.sl 2 xs id],int hh,int t],str i,int h] (DOk d) (.tup [H6 (sG d i h t),int (mH d i h t)]):=⟨fun hd=>by
 obtain⟨⟨_,_,c1,c2⟩,_⟩:=VX d i;refine qE func394 rfl ntmps394 rfl (fun _ hs=>?_);repeat' first|refine Zz ?_|intro _
 unfold sG mH;generalize hC:aA d i=C at *;obtain⟨c,k,p,f,l⟩:=C;dsimp only at c1 c2;cases h1:V6 d i
 ·repeat' first|refine Zz ?_|intro _
  refine d9 ?_;rfl
 rw[if_neg (show ¬ true=false by decide)];repeat' first|refine Zz ?_|intro _
 cases h2:lX ⟨c,k,p,f,l⟩ t
 ·repeat' first|refine Zz ?_|intro _
  refine d9 ?_;rfl
 rw[if_neg (show ¬ true=false by decide)];repeat' first|refine Zz ?_|intro _
 cases h3:(rJ l h).isSome
 ·repeat' first|refine Zz ?_|intro _
  refine d9 ?_;rfl
 ·rw[if_neg (show ¬ true=false by decide),if_pos rfl];repeat' first|refine Zz ?_|intro _
  refine d9 ?_;rfl⟩
instance b6z {d:List Ent}{i:Bs}{t h:Int}{xs:List AV}{id:Option Value}[hx:Ents xs d]:Ans prog GL 278 [.sl 2 xs id,str i,int h,int t] (DOk d) (.tup [H6 (sG d i h t),int (mH d i h t)]):=⟨fun hd=>by
 obtain⟨⟨_,_,c1,c2⟩,_,hr,_⟩:=VX d i;refine qE func278 rfl ntmps278 rfl (fun _ hs=>?_);repeat' first|refine Zz ?_|intro _
 unfold sG mH;generalize hC:aA d i=C at *;obtain⟨c,k,p,f,l⟩:=C;dsimp only at c1 c2 hr;cases h1:V6 d i
 ·repeat' first|refine Zz ?_|intro _
  refine d9 ?_;rfl
 rw[if_neg (show ¬ true=false by decide)];repeat' first|refine Zz ?_|intro _
 cases h2:lX ⟨c,k,p,f,l⟩ t
 ·repeat' first|refine Zz ?_|intro _
  refine d9 ?_;rfl
 rw[if_neg (show ¬ true=false by decide)];repeat' first|refine Zz ?_|intro _
 rw[VA h hr];cases h3:(rJ l h).isSome
 ·repeat' first|refine Zz ?_|intro _
  refine d9 ?_;rfl
 ·rw[if_neg (show ¬ true=false by decide),if_pos rfl];repeat' first|refine Zz ?_|intro _
  refine d9 ?_;rfl⟩
theorem a0V {d:List Ent}{i:Bs}{h t:Int}{k v:Bs}{p:Prf}(h0:mH d i h t=0):bY d i h t k v p=if xV (sG d i h t).r ⟨k,v⟩ p=false then 18 else 0:=by
 unfold bY;rw[h0];cases xV (sG d i h t).r ⟨k,v⟩ p <;> rfl
theorem a0W {d:List Ent}{i:Bs}{h t:Int}{k v:Bs}{p:Prf}(h0:mH d i h t≠0):bY d i h t k v p=mH d i h t:=by
 unfold bY;rw[if_neg (fun e=>h0 e.1)]
instance b6E {d:List Ent}{i k v:Bs}{h t a m:Int}{p:List Hsh}{xs ps:List AV}{id id2:Option Value}[hx:Ents xs d][hp:Hshs ps p]:Ans prog GL 204 [.sl 2 xs id,str i,int h,int t,str k,str v,.agg 3 [int a,int m,.sl 32 ps id2]] (DOk d/\m<=9223372036854775807) (int (bY d i h t k v ⟨a,m,p⟩)):=⟨fun hq=>by
 obtain⟨hd,hm⟩:=hq;refine qE func204 rfl ntmps204 rfl (fun _ hs=>?_);repeat' first|refine Zz ?_|intro _
 by_cases h0:mH d i h t=0
 ·rw[dZ (nni h0),a0V h0];repeat' first|refine Zz ?_|intro _
  cases h1:xV (sG d i h t).r ⟨k,v⟩ ⟨a,m,p⟩
  ·repeat' first|refine Zz ?_|intro _
   refine d9 ?_;rfl
  ·repeat' first|refine Zz ?_|intro _
   refine d9 ?_;rfl
 ·rw[dT h0,a0W h0];repeat' first|refine Zz ?_|intro _
  refine d9 ?_;rfl⟩
end Go.Proofs.YtocpacdnjbjjmaaGreatDoor
