/- . -/
import Derived.Test.YtgcmdlboancepaaGreatDoorQ31
set_option maxHeartbeats 64000000
namespace Av
open Go Go.RowKit Tw
theorem SpecE.imp {P:Program}{gl:List (Nat × AV)}{f:FuncId}{args:List AV}{out out':AV}(h:SpecE P gl f args out)(hi:Imp out out'):SpecE P gl f args out':=Spec.mk λok w c hS hv=>
 Calls.mono (h.run ok w c hS hv) λ_ _ ⟨v,m',ok',cv,e0,e,r,st⟩=>by
  obtain⟨rfl,rfl⟩:=e0;exact⟨out',[],ok',cv,⟨rfl,rfl⟩,e,hi _ _ _ r,st⟩
end Av
namespace Go.Proofs.Z
open Go Go.RowKit Tw Av
theorem DOk.le {d:List Ent}(h:DOk d):d.length<=1073741823:=Nat.le_trans h.l dc
theorem DOk.val {d:List Ent}(h:DOk d)(k:Bs):(N8 d k).length<=4000:=by
 unfold N8 gO fZ;cases hf:d.find? λx=>decide (x.key=k) with
 | none=>exact Nat.zero_le _
 | some x=>exact(h.f x (List.mem_of_find?_eq_some hf)).2
instance (priority:=high) d0h {d:List Ent}{k:Bs}{xs:List AV}{id:Option Value}[hx:Ents xs d]:Ans Tryz.prog GL 83 [.agg 1 [.sl 2 xs id],str k] (DOk d) (.tup [str (N8 d k),d9 (gO d k).isSome]):=⟨λh=>by
 have:=(a6c (l:=d) (k:=k) (xs:=xs) (id:=id)).spec h.le;rw[Yp h.s,KN h.s] at this;exact this⟩
instance (priority:=high) d0e {d:List Ent}{k:Bs}{xs:List AV}{id:Option Value}[hx:Ents xs d]:Ans Tryz.prog GL 76 [.sl 2 xs id,str k] (DOk d) (.tup [str (N8 d k),d9 (gO d k).isSome]):=⟨λh=>by
 have:=(a5K (l:=d) (k:=k) (xs:=xs) (id:=id)).spec h.le;rw[<- Option.isSome_map (f:=(·.val))] at this;exact this⟩
instance (priority:=high) d0g {d:List Ent}{k v:Bs}{xs:List AV}{id:Option Value}[hx:Ents xs d]:Ans Tryz.prog GL 138 [.agg 1 [.sl 2 xs id],str k,str v] (DOk d) (.tup [dA (P7 d k v).1,int (P7 d k v).2]):=⟨λh=>by
 refine SpecE.imp ((a5X (l:=d) (k:=k) (v:=v) (xs:=xs) (id:=id)).spec h.le) ?_;unfold tY P7;by_cases he:M6 d k v=0
 ·rw[if_pos he,if_pos he,he];exact Imp.of_eq rfl
 rw[if_neg he,if_neg he];exact(inferInstance:ImpR (.tup [.agg 1 [.lit (.slice none 0 0)],int (M6 d k v)]) (.tup [.agg 1 [.sl 2 [] none],int (M6 d k v)])).imp⟩
instance (priority:=high) d0d {d:List Ent}{k v:Bs}{xs:List AV}{id:Option Value}[hx:Ents xs d]:Ans Tryz.prog GL 63 [.sl 2 xs id,str k,str v] (DOk d) (.tup [.sl 2 ((P7 d k v).1.map D5) none,int (P7 d k v).2]):=⟨λh=>by
 refine SpecE.imp ((a5H (l:=d) (k:=k) (v:=v) (xs:=xs) (id:=id)).spec h.le) ?_;unfold xR P7;rw[VQ v h.s];by_cases he:M6 d k v=0
 ·have e1:=Iu ⟨k,v⟩ h.s;unfold rE bJ at e1;rw[VQ v h.s] at e1;simp only[if_pos he] at e1;rw[if_pos he,if_pos he,he,e1];exact Imp.of_eq rfl
 rw[if_neg he,if_neg he];exact(inferInstance:ImpR (.tup [.lit (.slice none 0 0),int (M6 d k v)]) (.tup [.sl 2 [] none,int (M6 d k v)])).imp⟩
instance (priority:=high) d0i {d:List Ent}{k:Bs}{xs:List AV}[hx:Ents xs d]:Ans Tryz.prog GL 320 [.agg 1 [.sl 2 xs none],str k] (DOk d) (.tup [dA (mZ d k),d9 (gO d k).isSome]):=⟨λh=>by
 have:=(a6i (l:=d) (k:=k) (xs:=xs)).spec h.le;rw[KN h.s] at this;unfold mZ;rw[KN h.s];exact this⟩
def jN (d:List Ent)(k:Bs):List Ent:=d.filter λx=>decide (x.key≠k)
theorem Qf {d:List Ent}{k:Bs}(h:∀ x∈d,x.key≠k):jN d k=d:=List.filter_eq_self.2 λx hx=>dT (h x hx)
theorem a6r {d:List Ent}{k:Bs}(h:Srt d):jN d k=mZ d k:=by
 obtain⟨A,B,hA,hB,hl,h1⟩:=vU k h;rw[Rl hl h1];have eA:jN A k=A:=Qf λx hx e=>by have:=hA x hx;rw[e,yK] at this;cases this
 have eB:jN B k=B:=Qf λx hx e=>by have:=hB x hx;rw[e,yK] at this;cases this
 unfold jN at *;rcases h1 with⟨_,rfl⟩|⟨v,_,rfl⟩
 ·rw[List.filter_append,eA,eB]
 rw[List.filter_append,List.filter_cons,eA,eB];simp
theorem a6q {d:List Ent}{k:Bs}:decide ((jN d k).length<d.length)=(gO d k).isSome:=by
 unfold jN gO fZ;rw[Option.isSome_map];cases hf:d.find? λx=>decide (x.key=k) with
 | none=>
  rw[List.find?_eq_none] at hf;have:d.filter (λx=>decide (x.key≠k))=d:=List.filter_eq_self.2 λx hx=>by simpa using hf x hx
  rw[this];simp
 | some x=>
  refine dT ?_;have hm:=List.mem_of_find?_eq_some hf;have hk:=List.find?_some hf;by_cases h:(d.filter λx=>decide (x.key≠k)).length<d.length
  ·exact h
  exfalso
  have h2:=List.length_filter_eq_length_iff.1 (Nat.le_antisymm (List.length_filter_le _ _) (Nat.not_lt.1 h)) x hm;simp at h2 hk;exact h2 hk
instance (priority:=high) d0f {d:List Ent}{k:Bs}{xs:List AV}{id:Option Value}[hx:Ents xs d]:Ans Tryz.prog GL 339 [.sl 2 xs id,str k] (DOk d) (.tup [.sl 2 ((mZ d k).map D5) none,d9 (gO d k).isSome]):=⟨λhd=>by
 have h:=hx.out;subst h;have hl:=hd.le;have hm:(d.map D5).length=d.length:=llm _;rw[<- a6r hd.s,<- a6q];refine qE Tryz.func339 rfl Tryz.ntmps339 rfl (λ_ hs=>?_);repeat' first|refine O ?_|intro
 refine Y4 6 (Imp.nil (k:=2)) ?_;refine P6 (λok w h=>h.full 187 2 none 0) ?_;refine y9 (α:=Nat × Value) (λq=>[(0,.sl 2 (d.map D5) id),(1,str k),(6,.sl 2 ((jN (d.take q.1) k).map D5) (some q.2)),(7,int q.1)]) (λq=>[.tail 187 2 q.2]) (λq=>q.1<=d.length) (λq=>d.length-q.1) (0,.slice none 0 0) zc slr (Nat.zero_le _) ?_;rintro⟨i,v⟩ hi;dsimp only at hi ⊢;have hfl:(jN (d.take i) k).length<=i:=Nat.le_trans (List.length_filter_le _ _) (List.length_take_le _ _);have hfm:((jN (d.take i) k).map D5).length=(jN (d.take i) k).length:=llm _;repeat' first|refine O ?_|intro
 refine w9 (λhlt=>?_) (λhlt=>?_)
 ·have hil:i<d.length:=om
  have htk:d.take (i+1)=d.take i++[d[i]]:=List.take_succ_eq_append_getElem hil;repeat' first|refine O ?_|intro
  refine w9 (λh=>?_) (λh=>?_)
  ·have e1:(jN (d.take (i+1)) k).map D5=(jN (d.take i) k).map D5++[D5 d[i]]:=by
    unfold jN;rw[htk,List.filter_append,List.filter_cons,if_pos (dT h),List.filter_nil,List.map_append];rfl
   repeat' first|refine O ?_|intro
   refine H7 (λv'=>?_);repeat' first|refine O ?_|intro
   rw[<- e1];refine o9 (i+1,v') zc ?_ hil (by dsimp only;omega);exact u7
  have e1:jN (d.take (i+1)) k=jN (d.take i) k:=by
   unfold jN;rw[htk,List.filter_append,List.filter_cons,if_neg (by rw[dZ h];decide),List.filter_nil,List.append_nil]
  repeat' first|refine O ?_|intro
  rw[<- e1];refine o9 (i+1,v) zc ?_ hil (by dsimp only;omega);exact u7
 obtain rfl:i=d.length:=by omega
 simp only[List.take_length] at hfl hfm ⊢;repeat' first|refine O ?_|intro
 refine F9 ?_;rw[hm,hfm,show decide (((jN d k).length:Int)<(d.length:Int))=decide ((jN d k).length<d.length) from decide_eq_decide.2 om];simp only[D8];exact ImpR.imp⟩
end Go.Proofs.Z

namespace Go.Proofs.Z
open Go Go.RowKit Tw Av Go.Proofs.Tryz
section
variable {a c k:Bs}{xs:List AV}{d:List Ent}
instance c1L :Ans prog GL 292 [str a,str c] True (str (I4 a c)):=⟨λ_=>by
 refine ze func292 ntmps292 λ_ hs=>?_;exact J7⟩
instance c1G :Ans prog GL 291 [str c] True (str (Q8 c)):=⟨λ_=>by
 refine ze func291 ntmps291 λ_ hs=>?_;exact J7⟩
instance b8a :Ans prog GL 151 [str a,str c] True (str (I4 a c)):=⟨λ_=>by
 refine ze func151 ntmps151 λ_ hs=>?_;exact J7⟩
instance b7W :Ans prog GL 150 [str c] True (str (Q8 c)):=⟨λ_=>by
 refine ze func150 ntmps150 λ_ hs=>?_;exact J7⟩
instance c1M {id:Option Value}[hx:Ents xs d]:Ans prog GL 361 [.agg 1 [.sl 2 xs id],str k] (DOk d) (z8 (H5 d k)):=⟨λhd=>by
 have hv:(N8 d k).length<=1000000000:=Nat.le_trans (hd.val k) dc;refine ze func361 ntmps361 λ_ hs=>?_;repeat' first|refine O ?_|intro
 unfold H5;by_cases h:(N8 d k).length=32
 ·simp only[if_pos h];exact j4
 simp only[if_neg h];exact j4⟩
instance b8b {id:Option Value}[hx:Ents xs d]:Ans prog GL 253 [.sl 2 xs id,str k] (DOk d) (z8 (H5 d k)):=⟨λhd=>by
 have hv:(N8 d k).length<=1000000000:=Nat.le_trans (hd.val k) dc;refine ze func253 ntmps253 λ_ hs=>?_;repeat' first|refine O ?_|intro
 unfold H5;by_cases h:(N8 d k).length=32
 ·simp only[if_pos h];exact j4
 simp only[if_neg h];exact j4⟩
instance c1P {id:Option Value}[hx:Ents xs d]:Ans prog GL 288 [.agg 1 [.sl 2 xs id],str a,str c] (DOk d) (z8 (H5 d (I4 a c))):=⟨λhd=>by
 refine ze func288 ntmps288 λ_ hs=>?_;exact J7⟩
instance b8d {id:Option Value}[hx:Ents xs d]:Ans prog GL 148 [.sl 2 xs id,str a,str c] (DOk d) (z8 (H5 d (I4 a c))):=⟨λhd=>by
 refine ze func148 ntmps148 λ_ hs=>?_;exact J7⟩
instance b7X {id:Option Value}[hx:Ents xs d]:Ans prog GL 147 [.sl 2 xs id,str c] (DOk d) (z8 (H5 d (Q8 c))):=⟨λhd=>by
 refine ze func147 ntmps147 λ_ hs=>?_;exact J7⟩
instance c1K {n:Wd}{l:List Bs}{id:Option Value}[hx:Strs xs l]:Ans prog GL 286 [str c,z8 n,.sl 1 xs id] True (d9 (l.all P9&&(aC c&&decide (n.n≠0)))):=⟨λ_=>by
 have h:=hx.out;subst h;have hm:(l.map str).length=l.length:=llm _;refine ze func286 ntmps286 λ_ hs=>?_;refine wF 2 (λhb=>?_);have hb:=nP hb;repeat' first|refine O ?_|intro
 rename_i g4;refine y9 (α:=Nat) (λi=>[(0,str c),(4,ptr g4),(9,.sl 1 (l.map str) id),(10,int (l.map str).length),(11,int i)]) (λi=>[.var g4 45 (z8 n)]) (λi=>i<=l.length/\∀ j,(hj:j<l.length)->j<i->P9 l[j]=true) (λi=>l.length-i) 0 zc slr ⟨Nat.zero_le _,λ_ _ h=>absurd h om⟩ ?_;rintro i ⟨hi,hall⟩;repeat' first|refine O ?_|intro
 refine w9 (λhlt=>?_) (λhlt=>?_)
 ·have hil:i<l.length:=om
  repeat' first|refine O ?_|intro
  refine w9 (λh=>?_) (λh=>?_)
  ·have hb:P9 l[i]=false:=dZ h;repeat' first|refine O ?_|intro
   refine j6 ?_;have:l.all P9=false:=List.all_eq_false.2 ⟨_,List.getElem_mem hil,by rw[hb];decide⟩;rw[this];rfl
  have hb:P9 l[i]=true:=dT (Classical.not_not.1 h);repeat' first|refine O ?_|intro
  refine o9 (i+1) zc slr ⟨hil,λj hj h=>?_⟩ om;by_cases hj2:j<i
  ·exact hall j hj hj2
  obtain rfl:j=i:=by omega
  exact hb
 obtain rfl:i=l.length:=by omega
 have ht:l.all P9=true:=List.all_eq_true.2 λx hx=>by
  obtain⟨j,hj,rfl⟩:=List.getElem_of_mem hx;exact hall j hj hj
 rw[ht,Bool.true_and];repeat' first|refine O ?_|intro
 cases h2:aC c
 ·exact j4
 exact j4⟩
abbrev U4 (d:List Ent):AV:=.sl 2 (d.map D5) none
instance b7Y {n:Wd}{id:Option Value}[hx:Ents xs d]:Ans prog GL 254 [.sl 2 xs id,str k,z8 n] (DOk d) (.tup [U4 (Y9 k n.n d).1,int (Y9 k n.n d).2]):=⟨λhd=>by
 refine ze func254 ntmps254 λ_ hs=>?_;repeat' first|refine O ?_|intro
 rw[EE];unfold Y9;by_cases h:n.n=0
 ·rw[if_pos h];exact j4
 rw[if_neg h];exact j4⟩
theorem a0M {n:Nat}(h:DOk d):DOk (Y9 k n d).1:=by
 unfold Y9;split
 ·exact h.drp _
 exact xQ h
theorem a2f {v:Bs}(h:(P7 d k v).2≠0):(P7 d k v).1=[]:=by
 unfold P7 at h ⊢;split
 ·rename_i h1;rw[if_pos h1] at h;exact absurd rfl h
 rfl
theorem Ee {n:Nat}(h:(Y9 k n d).2≠0):(Y9 k n d).1=[]:=by
 unfold Y9 at h ⊢;split
 ·rename_i h1;rw[if_pos h1] at h;exact absurd rfl h
 rename_i h1;rw[if_neg h1] at h;exact a2f h
theorem fM (n:Int):Imp (D8 [.lit (.slice none 0 0),int n]) (.tup [U4 [],int n]):=(inferInstance:ImpR (.tup [.lit (.slice none 0 0),int n]) (.tup [.sl 2 [] none,int n])).imp
instance b7V {b:Bs}{n m:Wd}{id:Option Value}[hx:Ents xs d]:Ans prog GL 149 [.sl 2 xs id,str a,z8 n,str b,z8 m] (DOk d) (.tup [U4 (Y7 (Y9 a n.n) (Y9 b m.n) d).1,int (Y7 (Y9 a n.n) (Y9 b m.n) d).2]):=⟨λhd=>by
 refine ze func149 ntmps149 λ_ hs=>?_;repeat' first|refine O ?_|intro
 unfold Y7;have h2:=a0M (k:=a) (n:=n.n) hd;by_cases h:(Y9 a n.n d).2=0
 ·rw[if_pos h];repeat' first|refine Z ?_|intro
  by_cases h3:(Y9 b m.n (Y9 a n.n d).1).2=0
  ·repeat' first|refine Z ?_|intro
   refine j6 ?_;rw[h3];rfl
  repeat' first|refine Z ?_|intro
  refine F9 ?_;rw[Ee h3];exact fM _
 rw[if_neg h];repeat' first|refine Z ?_|intro
 refine F9 ?_;rw[Ee h];exact fM _⟩
end

section
variable {xs:List AV}{a c:Bs}{d:List Ent}
theorem MR {n:Nat}(h:Z6 n=true):n<115792089237316195423570985008687907853269984665640564039457584007913129639936:=of_decide_eq_true h
attribute [local irreducible] P9 aC Z6
instance XY {n:Wd}{id:Option Value}[hx:Ents xs d]:Ans prog GL 62 [.sl 2 xs id,str a,str c,z8 n] (DOk d) (.tup [U4 (aJ d a c n).1,int (aJ d a c n).2]):=⟨λhd=>by
 rw[a3y hd];refine ze func62 ntmps62 λ_ hs=>?_;repeat' first|refine Z ?_|intro
 unfold WT;by_cases h1:P9 a=false
 ·rw[if_pos (.inl h1),h1];repeat' first|refine Z ?_|intro
  refine F9 ?_;exact fM _
 have h1':P9 a=true:=by simpa using h1
 by_cases h2:aC c=false
 ·rw[if_pos (.inr (.inl h2)),h1',h2];repeat' first|refine Z ?_|intro
  refine F9 ?_;exact fM _
 have h2':aC c=true:=by simpa using h2
 rw[h1',h2'];repeat' first|refine Z ?_|intro
 rw[EE];by_cases h3:n.n=0
 ·rw[if_pos (.inr (.inr h3))];repeat' first|refine Z ?_|intro
  refine F9 ?_;exact fM _
 rw[if_neg (by rintro (h|h|h);exact absurd h dc;exact absurd h dc;exact h3 h)];repeat' first|refine Z ?_|intro
 cases h4:Z6 ((H5 d (Q8 c)).n+n.n)
 ·rw[if_pos (.inl rfl)];repeat' first|refine Z ?_|intro
  refine F9 ?_;exact fM _
 repeat' first|refine Z ?_|intro
 cases h5:Z6 ((H5 d (I4 a c)).n+n.n)
 ·rw[if_pos (.inr rfl)];repeat' first|refine Z ?_|intro
  refine F9 ?_;exact fM _
 rw[if_neg dc];repeat' first|refine Z ?_|intro
 refine j6 ?_;rw[qD (MR h4),qD (MR h5)];rfl⟩
instance b8c {n:Wd}{id:Option Value}[hx:Ents xs d]:Ans prog GL 470 [.sl 2 xs id,str a,str c,z8 n] (DOk d) (.tup [U4 (rR d a c n).1,int (rR d a c n).2]):=⟨λhd=>by
 rw[a8e hd];refine ze func470 ntmps470 λ_ hs=>?_;repeat' first|refine Z ?_|intro
 unfold Aa;by_cases h1:P9 a=false
 ·rw[if_pos (.inl h1),h1];repeat' first|refine Z ?_|intro
  refine F9 ?_;exact fM _
 have h1':P9 a=true:=by simpa using h1
 by_cases h2:aC c=false
 ·rw[if_pos (.inr (.inl h2)),h1',h2];repeat' first|refine Z ?_|intro
  refine F9 ?_;exact fM _
 have h2':aC c=true:=by simpa using h2
 rw[h1',h2'];repeat' first|refine Z ?_|intro
 rw[EE];by_cases h3:n.n=0
 ·rw[if_pos (.inr (.inr h3))];repeat' first|refine Z ?_|intro
  refine F9 ?_;exact fM _
 rw[if_neg (by rintro (h|h|h);exact absurd h dc;exact absurd h dc;exact h3 h)];repeat' first|refine Z ?_|intro
 by_cases h4:(H5 d (Q8 c)).n<n.n
 ·rw[if_pos (.inl h4),dZ (Nat.not_le.2 h4)];repeat' first|refine Z ?_|intro
  refine F9 ?_;exact fM _
 rw[dT (Nat.not_lt.1 h4)];repeat' first|refine Z ?_|intro
 by_cases h5:(H5 d (I4 a c)).n<n.n
 ·rw[if_pos (.inr h5),dZ (Nat.not_le.2 h5)];repeat' first|refine Z ?_|intro
  refine F9 ?_;exact fM _
 rw[if_neg (by rintro (h|h);exact h4 h;exact h5 h),dT (Nat.not_lt.1 h5)];repeat' first|refine Z ?_|intro
 refine j6 ?_;rw[qD (Nat.lt_of_le_of_lt (Nat.sub_le _ _) (H5 d (Q8 c)).lt),qD (Nat.lt_of_le_of_lt (Nat.sub_le _ _) (H5 d (I4 a c)).lt)];rfl⟩
instance b7Z {b:Bs}{n:Wd}{id:Option Value}[hx:Ents xs d]:Ans prog GL 425 [.sl 2 xs id,str a,str b,str c,z8 n] (DOk d) (.tup [U4 (bC d a b c n).1,int (bC d a b c n).2]):=⟨λhd=>by
 have h:=hx.out;subst h;rw[a3i hd];refine ze func425 ntmps425 λ_ hs=>?_;repeat' first|refine Z ?_|intro
 unfold WM;by_cases h1:P9 a=false
 ·rw[if_pos (.inl h1),h1];repeat' first|refine Z ?_|intro
  refine F9 ?_;exact fM _
 have h1':P9 a=true:=by simpa using h1
 by_cases h1b:P9 b=false
 ·rw[if_pos (.inr (.inl h1b)),h1',h1b];repeat' first|refine Z ?_|intro
  refine F9 ?_;exact fM _
 have h1b':P9 b=true:=by simpa using h1b
 by_cases h2:aC c=false
 ·rw[if_pos (.inr (.inr (.inl h2))),h1',h1b',h2];repeat' first|refine Z ?_|intro
  refine F9 ?_;exact fM _
 have h2':aC c=true:=by simpa using h2
 rw[h1',h1b',h2'];repeat' first|refine Z ?_|intro
 rw[EE];by_cases h3:n.n=0
 ·rw[if_pos (.inr (.inr (.inr h3)))];repeat' first|refine Z ?_|intro
  refine F9 ?_;exact fM _
 rw[if_neg (by rintro (h|h|h|h);exact absurd h dc;exact absurd h dc;exact absurd h dc;exact h3 h)];repeat' first|refine Z ?_|intro
 by_cases h4:(H5 d (I4 a c)).n<n.n
 ·rw[if_pos h4,dZ (Nat.not_le.2 h4)];repeat' first|refine Z ?_|intro
  refine F9 ?_;exact fM _
 rw[if_neg h4,dT (Nat.not_lt.1 h4)];repeat' first|refine Z ?_|intro
 by_cases h5:a=b
 ·rw[if_pos h5,dT h5];repeat' first|refine Z ?_|intro
  refine F9 ?_;exact(inferInstance:ImpR (.tup [.sl 2 (d.map D5) id,int 0]) (.tup [.sl 2 (d.map D5) none,int 0])).imp
 rw[if_neg h5,dZ h5];repeat' first|refine Z ?_|intro
 cases h6:Z6 ((H5 d (I4 b c)).n+n.n)
 ·rw[if_pos rfl];repeat' first|refine Z ?_|intro
  refine F9 ?_;exact fM _
 rw[if_neg dc];repeat' first|refine Z ?_|intro
 refine j6 ?_;rw[qD (Nat.lt_of_le_of_lt (Nat.sub_le _ _) (H5 d (I4 a c)).lt),qD (MR h6)];rfl⟩
end

section
def Does (f:FuncId)(cs:List Value)(m:List Av.Piece)(R:List Ent->List Ent × Int):Prop:=∀ d,DOk d->Av.Spec prog GL f (dA d::cs.map .lit) m λu m'=>u=.tup [dA (R d).1,int (R d).2]/\m'=m
theorem WN {k:Bs}{n:Wd}:Av.Spec prog GL 290 [str k,z8 n] [] λu m=>∃ g1 g2,u=E5 362 [.pointer (some ⟨g1,0,none⟩),.pointer (some ⟨g2,0,none⟩)]/\m=[.var g2 45 (z8 n),.var g1 9 (str k)]:=by
 refine ze func290 ntmps290 λ_ hs=>?_;repeat' first|refine O ?_|intro
 rename_i g1 g2;refine Y3 (vs:=[.pointer (some ⟨g1,0,none⟩),.pointer (some ⟨g2,0,none⟩)]) ?_;repeat' first|refine O ?_|intro
 exact l9 _ ⟨g1,g2,rfl,rfl⟩ slr
theorem WY {k:Bs}{n:Wd}:Av.Spec prog GL 293 [str k,z8 n] [] λu m=>∃ g1 g2,u=E5 363 [.pointer (some ⟨g1,0,none⟩),.pointer (some ⟨g2,0,none⟩)]/\m=[.var g2 45 (z8 n),.var g1 9 (str k)]:=by
 refine ze func293 ntmps293 λ_ hs=>?_;repeat' first|refine O ?_|intro
 rename_i g1 g2;refine Y3 (vs:=[.pointer (some ⟨g1,0,none⟩),.pointer (some ⟨g2,0,none⟩)]) ?_;repeat' first|refine O ?_|intro
 exact l9 _ ⟨g1,g2,rfl,rfl⟩ slr
theorem AQ (n:Int):Imp (D8 [.agg 1 [.lit (.slice none 0 0)],int n]) (.tup [dA [],int n]):=(inferInstance:ImpR (.tup [.agg 1 [.lit (.slice none 0 0)],int n]) (.tup [.agg 1 [.sl 2 [] none],int n])).imp
attribute [local irreducible] Z6
theorem WO {k:Bs}{n:Wd}{g1 g2:Nat}:Does 362 [.pointer (some ⟨g1,0,none⟩),.pointer (some ⟨g2,0,none⟩)] [.var g2 45 (z8 n),.var g1 9 (str k)] (iU k n):=λd hd=>by
 show Av.Spec _ _ _ [dA d,ptr g1,ptr g2] _ _;refine ze func362 ntmps362 λ_ hs=>?_;repeat' first|refine Z ?_|intro
 unfold iU;cases h:Z6 ((H5 d k).n+n.n)
 ·rw[if_neg dc];repeat' first|refine Z ?_|intro
  refine U6 _ _ (AQ _) ⟨rfl,rfl⟩ ?_;exact u7
 rw[if_pos rfl];repeat' first|refine Z ?_|intro
 refine U6 _ _ (Imp.of_eq ?_) ⟨rfl,rfl⟩ ?_
 ·rw[qD (MR h)];rfl
 exact u7
theorem XA {k:Bs}{n:Wd}{g1 g2:Nat}:Does 363 [.pointer (some ⟨g1,0,none⟩),.pointer (some ⟨g2,0,none⟩)] [.var g2 45 (z8 n),.var g1 9 (str k)] (iG k n):=λd hd=>by
 show Av.Spec _ _ _ [dA d,ptr g1,ptr g2] _ _;have hw:(Q5 ((H5 d k).n-n.n)).n=(H5 d k).n-n.n:=qD (Nat.lt_of_le_of_lt (Nat.sub_le _ _) (H5 d k).lt);refine ze func363 ntmps363 λ_ hs=>?_;repeat' first|refine Z ?_|intro
 unfold iG;by_cases h:(H5 d k).n<n.n
 ·rw[if_pos h,dZ (Nat.not_le.2 h)];repeat' first|refine Z ?_|intro
  refine U6 _ _ (AQ _) ⟨rfl,rfl⟩ ?_;exact u7
 rw[if_neg h,dT (Nat.not_lt.1 h)];repeat' first|refine Z ?_|intro
 rw[hw];by_cases h2:(H5 d k).n=n.n
 ·rw[if_pos h2,dT (show (H5 d k).n-n.n=0 by omega)];repeat' first|refine Z ?_|intro
  refine U6 _ _ (Imp.of_eq rfl) ⟨rfl,rfl⟩ ?_;exact u7
 rw[if_neg h2,dZ (show ¬ (H5 d k).n-n.n=0 by omega)];repeat' first|refine Z ?_|intro
 refine U6 _ _ (Imp.of_eq ?_) ⟨rfl,rfl⟩ ?_
 ·rw[hw];rfl
 exact u7
end

def dAt (R1 R2:List Ent->List Ent × Int)(d:List Ent):Nat->List Ent
 | 0=>d
 | 1=>(R1 d).1
 | _=>(R2 (R1 d).1).1
theorem YO {f1 f2:FuncId}[FnB prog f1][FnB prog f2]{cs1 cs2:List Value}{m1 m2:List Av.Piece}{R1 R2:List Ent->List Ent × Int}{d:List Ent}(h1:Does f1 cs1 m1 R1)(h2:Does f2 cs2 m2 R2)(hc1:∀ v∈cs1,v.oneCell'=true)(hc2:∀ v∈cs2,v.oneCell'=true)(hd:DOk d)(hd1:DOk (R1 d).1) :
  Av.Spec prog GL 289 [dA d,.sl 1 [E5 f1 cs1,E5 f2 cs2] none] (m1++m2) λu m=>u=.tup [dA (Y7 R1 R2 d).1,int (Y7 R1 R2 d).2]/\m=m1++m2:=by
 refine ze func289 ntmps289 λ_ hs=>?_;repeat' first|refine O ?_|intro
 rename_i g2 g4;refine y9 (α:=Nat) (λi=>[(2,ptr g2),(4,ptr g4),(5,int 0),(6,int 0),(9,.sl 1 [E5 f1 cs1,E5 f2 cs2] none),(10,int 2),(11,int i)]) (λi=>[.var g4 64 (.agg 1 [.lit (.slice none 0 0)]),.var g2 64 (dA (dAt R1 R2 d i))]++(m1++m2))
  (λi=>i<=2/\(1<=i->(R1 d).2=0)/\(2<=i->(R2 (R1 d).1).2=0)) (λi=>2-i) 0 zc slr ⟨dc,λh=>absurd h dc,λh=>absurd h dc⟩ ?_
 rintro i ⟨hi,f1',f2'⟩;rcases i with _|_|_|i
 ·repeat' first|refine Z ?_|intro
  refine gU (args:=[dA d]) (cs:=cs1) m1 ([Av.Piece.var g4 64 (.agg 1 [.lit (.slice none 0 0)]),Av.Piece.var g2 64 (dA (d))]++m2) (by rw[hs];exact h1 d hd) (λu m' hh=>?_) (List.perm_append_comm_assoc _ _ _) (hcs:=hc1);obtain⟨rfl,rfl⟩:=hh;refine fF (λok w h=>h.perm (m':=[Av.Piece.var g4 64 (.agg 1 [.lit (.slice none 0 0)]),Av.Piece.var g2 64 (dA (d))]++(m'++m2)) (List.perm_append_comm_assoc _ _ _)) ?_;by_cases he:(R1 d).2=0
  ·repeat' first|refine Z ?_|intro
   refine X4 6 (v:=int (R1 d).2) (v':=int 0) (Imp.of_eq (by rw[he])) ?_;refine o9 1 zc slr ⟨dc,λ_=>he,λh=>absurd h dc⟩ dc
  repeat' first|refine Z ?_|intro
  refine l9 (m'++m2) ⟨?_,rfl⟩ ((List.sublist_cons_self _ _).trans (List.Sublist.refl _ |>.cons _));unfold Y7;rw[if_neg he];rfl
 ·have he1:=f1' dc;repeat' first|refine Z ?_|intro
  refine gU (args:=[dA (R1 d).1]) (cs:=cs2) m2 ([Av.Piece.var g4 64 (.agg 1 [.lit (.slice none 0 0)]),Av.Piece.var g2 64 (dA ((R1 d).1))]++m1) (by rw[hs];exact h2 _ hd1) (λu m' hh=>?_) ?_ (hcs:=hc2);rotate_left
  ·exact(List.perm_append_comm (l₁:=[Av.Piece.var g4 64 (.agg 1 [.lit (.slice none 0 0)]),Av.Piece.var g2 64 (dA ((R1 d).1))]++m1) (l₂:=m2)).trans lpr |> λh=>(by rw[<- laa];exact h)
  obtain⟨rfl,rfl⟩:=hh;refine fF (λok w h=>h.perm (m':=[Av.Piece.var g4 64 (.agg 1 [.lit (.slice none 0 0)]),Av.Piece.var g2 64 (dA ((R1 d).1))]++(m1++m')) (by rw[<- laa];exact List.perm_append_comm)) ?_;have ht:Y7 R1 R2 d=R2 (R1 d).1:=by
   unfold Y7;rw[if_pos he1]
  rw[ht];by_cases he:(R2 (R1 d).1).2=0
  ·repeat' first|refine Z ?_|intro
   refine X4 6 (v:=int (R2 (R1 d).1).2) (v':=int 0) (Imp.of_eq (by rw[he])) ?_;refine o9 2 zc slr ⟨dc,λ_=>he1,λ_=>he⟩ dc
  repeat' first|refine Z ?_|intro
  refine l9 (m1++m') ⟨rfl,rfl⟩ ?_;exact(List.Sublist.refl _ |>.cons _).cons _
 ·have he1:=f1' dc;have he2:=f2' dc;have ht:Y7 R1 R2 d=R2 (R1 d).1:=by
   unfold Y7;rw[if_pos he1]
  rw[ht,he2];repeat' first|refine Z ?_|intro
  refine l9 (m1++m2) ⟨rfl,rfl⟩ ?_;exact(List.Sublist.refl _ |>.cons _).cons _
 omega

section
variable {a c:Bs}{xs:List AV}{d:List Ent}
attribute [local irreducible] P9 aC Z6
theorem PP {n:Wd}:([a].all P9&&(aC c&&decide (n.n≠0)))=false↔P9 a=false\/aC c=false\/n.n=0:=by
 simp only[List.all_cons,List.all_nil,Bool.and_true];by_cases h:n.n=0 <;> cases P9 a <;> cases aC c <;> simp[h]
theorem Ld {b:Bs}{n:Wd}:([a,b].all P9&&(aC c&&decide (n.n≠0)))=false↔P9 a=false\/P9 b=false\/aC c=false\/n.n=0:=by
 simp only[List.all_cons,List.all_nil,Bool.and_true];by_cases h:n.n=0 <;> cases P9 a <;> cases P9 b <;> cases aC c <;> simp[h]
theorem FF {g1 g2:Nat}:∀ v∈[Value.pointer (some ⟨g1,0,none⟩),.pointer (some ⟨g2,0,none⟩)],v.oneCell'=true:=by simp[Value.oneCell']
instance c1J {n:Wd}[hx:Ents xs d]:Ans prog GL 194 [.agg 1 [.sl 2 xs none],str a,str c,z8 n] (DOk d) (.tup [dA (aJ d a c n).1,int (aJ d a c n).2]):=⟨λhd=>by
 have h:=hx.out;subst h;refine ze func194 ntmps194 λ_ hs=>?_;repeat' first|refine Z ?_|intro
 unfold aJ;cases h1:[a].all P9&&(aC c&&decide (n.n≠0))
 ·rw[if_pos (PP.1 h1)];repeat' first|refine Z ?_|intro
  refine F9 ?_;exact AQ _
 rw[if_neg (λe=>by rw[PP.2 e] at h1;cases h1)];repeat' first|refine Z ?_|intro
 cases h2:Z6 ((H5 d (I4 a c)).n+n.n)
 ·rw[if_pos rfl];repeat' first|refine Z ?_|intro
  refine F9 ?_;exact AQ _
 rw[if_neg dc];repeat' (first|refine eP ?_|refine K3 ?_|refine M9 ?_|refine J8 ?_|intro _)
 refine wE [0,1,2,3,5,6,8,4,7,9,10,11,12,13,14,15] kr rfl hs kr ?_;repeat' first|refine O ?_|intro
 apply U2 [];exact rfl;exact rfl;kernel_rfl;kernel_rfl;intro s' hs';refine H6 (args:=[str (Q8 c),z8 n]) [] _ (by rw[hs'];exact WN) (λu m1 hh=>?_) lpr;obtain⟨k1,n1,rfl,rfl⟩:=hh;refine j3 (N7 [] [.var n1 45 (z8 n),.var k1 9 (str (Q8 c))] rfl rfl lpr rfl ?_);repeat' first|refine O ?_|intro
 apply U2 [];exact rfl;exact rfl;kernel_rfl;kernel_rfl;intro s' hs';refine H6 (args:=[str (I4 a c),z8 n]) [] _ (by rw[hs'];exact WN) (λu m1 hh=>?_) lpr;obtain⟨k2,n2,rfl,rfl⟩:=hh;refine j3 (N7 [] [.var n2 45 (z8 n),.var k2 9 (str (I4 a c))] rfl rfl lpr rfl ?_);repeat' first|refine O ?_|intro
 apply zf [4,5,6,7];exact zi;intro s' hs';refine H6 (args:=[dA d,.sl 1 [E5 362 [.pointer (some ⟨k1,0,none⟩),.pointer (some ⟨n1,0,none⟩)],E5 362 [.pointer (some ⟨k2,0,none⟩),.pointer (some ⟨n2,0,none⟩)]] none]) [.var n1 45 (z8 n),.var k1 9 (str (Q8 c)),.var n2 45 (z8 n),.var k2 9 (str (I4 a c))] [] (by rw[hs'];exact YO (m1:=[.var n1 45 (z8 n),.var k1 9 (str (Q8 c))]) (m2:=[.var n2 45 (z8 n),.var k2 9 (str (I4 a c))]) WO WO FF FF hd (PL hd)) (λu m1 hh=>?_) lpr;obtain⟨rfl,rfl⟩:=hh;exact j3 (p9 rfl rfl);exact J7⟩
instance c1O {n:Wd}[hx:Ents xs d]:Ans prog GL 307 [.agg 1 [.sl 2 xs none],str a,str c,z8 n] (DOk d) (.tup [dA (rR d a c n).1,int (rR d a c n).2]):=⟨λhd=>by
 have h:=hx.out;subst h;refine ze func307 ntmps307 λ_ hs=>?_;repeat' first|refine Z ?_|intro
 unfold rR;cases h1:[a].all P9&&(aC c&&decide (n.n≠0))
 ·rw[if_pos (PP.1 h1)];repeat' first|refine Z ?_|intro
  refine F9 ?_;exact AQ _
 rw[if_neg (λe=>by rw[PP.2 e] at h1;cases h1)];repeat' (first|refine eP ?_|refine K3 ?_|refine M9 ?_|refine J8 ?_|intro _)
 refine wE [0,1,2,3,5,6,8,4,7,9,10,11,12,13,14,15] kr rfl hs kr ?_;repeat' first|refine O ?_|intro
 apply U2 [];exact rfl;exact rfl;kernel_rfl;kernel_rfl;intro s' hs';refine H6 (args:=[str (Q8 c),z8 n]) [] _ (by rw[hs'];exact WY) (λu m1 hh=>?_) lpr;obtain⟨k1,n1,rfl,rfl⟩:=hh;refine j3 (N7 [] [.var n1 45 (z8 n),.var k1 9 (str (Q8 c))] rfl rfl lpr rfl ?_);repeat' first|refine O ?_|intro
 apply U2 [];exact rfl;exact rfl;kernel_rfl;kernel_rfl;intro s' hs';refine H6 (args:=[str (I4 a c),z8 n]) [] _ (by rw[hs'];exact WY) (λu m1 hh=>?_) lpr;obtain⟨k2,n2,rfl,rfl⟩:=hh;refine j3 (N7 [] [.var n2 45 (z8 n),.var k2 9 (str (I4 a c))] rfl rfl lpr rfl ?_);repeat' first|refine O ?_|intro
 apply zf [3,4,5,6];exact zi;intro s' hs';refine H6 (args:=[dA d,.sl 1 [E5 363 [.pointer (some ⟨k1,0,none⟩),.pointer (some ⟨n1,0,none⟩)],E5 363 [.pointer (some ⟨k2,0,none⟩),.pointer (some ⟨n2,0,none⟩)]] none]) [.var n1 45 (z8 n),.var k1 9 (str (Q8 c)),.var n2 45 (z8 n),.var k2 9 (str (I4 a c))] [] (by rw[hs'];exact YO (m1:=[.var n1 45 (z8 n),.var k1 9 (str (Q8 c))]) (m2:=[.var n2 45 (z8 n),.var k2 9 (str (I4 a c))]) XA XA FF FF hd (KJ hd)) (λu m1 hh=>?_) lpr;obtain⟨rfl,rfl⟩:=hh;exact j3 (p9 rfl rfl);exact J7⟩
instance c1I {b:Bs}{n:Wd}[hx:Ents xs d]:Ans prog GL 196 [.agg 1 [.sl 2 xs none],str a,str b,str c,z8 n] (DOk d) (.tup [dA (bC d a b c n).1,int (bC d a b c n).2]):=⟨λhd=>by
 have h:=hx.out;subst h;refine ze func196 ntmps196 λ_ hs=>?_;repeat' first|refine Z ?_|intro
 unfold bC;cases h1:[a,b].all P9&&(aC c&&decide (n.n≠0))
 ·rw[if_pos (Ld.1 h1)];repeat' first|refine Z ?_|intro
  refine F9 ?_;exact AQ _
 rw[if_neg (λe=>by rw[Ld.2 e] at h1;cases h1)];repeat' (first|refine eP ?_|refine K3 ?_|refine M9 ?_|refine J8 ?_|intro _)
 refine wE [0,1,2,4,6,7,9,3,5,8,10,11,12,13,14,15,16,17,18] kr rfl hs kr ?_;repeat' first|refine O ?_|intro
 apply wL [64] [];exact rfl;exact rfl;kernel_rfl;kernel_rfl;kernel_rfl;exact⟨⟨_,inferInstance⟩,trivial⟩;intro s' hs';refine H6 (args:=[str (I4 a c),z8 n]) [] _ (by rw[hs'];exact WY) (λu m1 hh=>?_) lpr;obtain⟨k1,n1,rfl,rfl⟩:=hh;refine j3 (N7 [] [.var n1 45 (z8 n),.var k1 9 (str (I4 a c))] rfl rfl lpr rfl ?_);repeat' first|refine O ?_|intro
 apply wL [64] [];exact rfl;exact rfl;kernel_rfl;kernel_rfl;kernel_rfl;exact⟨⟨_,inferInstance⟩,trivial⟩;intro s' hs';refine H6 (args:=[str (I4 b c),z8 n]) [] _ (by rw[hs'];exact WN) (λu m1 hh=>?_) lpr;obtain⟨k2,n2,rfl,rfl⟩:=hh;refine j3 (N7 [] [.var n2 45 (z8 n),.var k2 9 (str (I4 b c))] rfl rfl lpr rfl ?_);repeat' first|refine O ?_|intro
 apply zf [3,4,5,6];exact zi;intro s' hs';refine H6 (args:=[dA d,.sl 1 [E5 363 [.pointer (some ⟨k1,0,none⟩),.pointer (some ⟨n1,0,none⟩)],E5 362 [.pointer (some ⟨k2,0,none⟩),.pointer (some ⟨n2,0,none⟩)]] none]) [.var n1 45 (z8 n),.var k1 9 (str (I4 a c)),.var n2 45 (z8 n),.var k2 9 (str (I4 b c))] [] (by rw[hs'];exact YO (m1:=[.var n1 45 (z8 n),.var k1 9 (str (I4 a c))]) (m2:=[.var n2 45 (z8 n),.var k2 9 (str (I4 b c))]) XA WO FF FF hd (KJ hd)) (λu m1 hh=>?_) lpr;obtain⟨rfl,rfl⟩:=hh;exact j3 (p9 rfl rfl)
 iterate 3 refine nO ?_
 apply a2V [64];kernel_rfl;kernel_rfl;kernel_rfl;exact⟨⟨_,inferInstance⟩,trivial⟩;intro g3;repeat' first|refine O ?_|intro
 generalize hR:Y7 (iG (I4 a c) n) (iU (I4 b c) n) d=R;by_cases hab:a=b
 ·rw[dT hab];repeat' first|refine O ?_|intro
  by_cases he:R.2=16
  ·rw[dZ (nni he)];repeat' first|refine O ?_|intro
   refine j6 ?_;simp[hab,he];rfl
  rw[dT he];repeat' first|refine O ?_|intro
  refine j6 ?_;simp[hab,he];rfl
 rw[dZ hab];repeat' first|refine O ?_|intro
 refine j6 ?_;simp[hab];rfl⟩
end

section
variable {h q t:Int}{d f g k s:Bs}{a:Wd}
instance b6v :Ans prog GL 372 [.agg 12 [int q,str s,str k,.agg 7 [str d,z8 a,str f,str g],int h,int t]] (s.length<=1000000000/\d.length<=1000000000) (d9 (lK ⟨q,s,k,d,a,f,g,h,t⟩)):=⟨λhp=>by
 refine ze func372 ntmps372 λ_ hs=>?_;exact j4⟩
instance b8V :Ans prog GL 469 [.agg 12 [int q,str s,str k,.agg 7 [str d,z8 a,str f,str g],int h,int t]] (s.length<=1000000000/\d.length<=1000000000) (d9 (lK ⟨q,s,k,d,a,f,g,h,t⟩)):=⟨λhp=>by
 refine ze func469 ntmps469 λ_ hs=>?_;exact j4⟩
theorem Vn (h:vB s d=true):EX s d=d.drop (s.length+1):=by
 unfold EX;rw[if_pos h]
instance b6x :Ans prog GL 314 [.agg 12 [int q,str s,str k,.agg 7 [str d,z8 a,str f,str g],int h,int t]] (s.length<=1000000000/\d.length<=1000000000/\k.length<=1000000000) (str (vX ⟨q,s,k,d,a,f,g,h,t⟩)):=⟨λhp=>by
 obtain⟨h1,h2,h3⟩:=hp;show Av.Spec _ _ _ _ _ λv m'=>v=str (if vB s d=true then d.drop (s.length+1) else k++[47]++d)/\m'=[];refine ze func314 ntmps314 λ_ hs=>?_;repeat' first|refine Z ?_|intro
 cases hr:vB s d
 ·rw[if_neg (show ¬ false=true by decide)];exact j4
 rw[if_pos rfl,<- Vn hr];exact j4⟩
instance b8W :Ans prog GL 472 [.agg 12 [int q,str s,str k,.agg 7 [str d,z8 a,str f,str g],int h,int t]] (s.length<=1000000000/\d.length<=1000000000/\k.length<=1000000000) (str (vX ⟨q,s,k,d,a,f,g,h,t⟩)):=⟨λhp=>by
 obtain⟨h1,h2,h3⟩:=hp;have hl:(k++[47]).length=k.length+1:=by rw[lla];rfl
 show Av.Spec _ _ _ _ _ λv m'=>v=str (if vB s d=true then d.drop (s.length+1) else k++[47]++d)/\m'=[];refine ze func472 ntmps472 λ_ hs=>?_;repeat' first|refine Z ?_|intro
 cases hr:vB s d
 ·rw[if_neg (show ¬ false=true by decide)];exact j4
 rw[if_pos rfl,<- Vn hr];exact j4⟩
abbrev fO (d:Bs)(a:Wd)(f g:Bs):AV:=.agg 7 [.agg 7 [str d,z8 a,str f,str g]]
instance b9B {e:List Ent}{n:Wd}{a b c:Bs}{xs:List AV}[hx:Ents xs e]:Ans prog GL 309 [.agg 7 [.agg 7 [str d,z8 n,str f,str g]],.agg 1 [.sl 2 xs none],str a,str b,str c] (DOk e) (.tup [dA (bC e a b c n).1,int (bC e a b c n).2]):=⟨λhd=>by
 have h:=hx.out;subst h;refine ze func309 ntmps309 λ_ hs=>?_;exact j4⟩
instance b9C {e:List Ent}{n:Wd}{a c:Bs}{xs:List AV}[hx:Ents xs e]:Ans prog GL 317 [.agg 7 [.agg 7 [str d,z8 n,str f,str g]],.agg 1 [.sl 2 xs none],str a,str c] (DOk e) (.tup [dA (aJ e a c n).1,int (aJ e a c n).2]):=⟨λhd=>by
 have h:=hx.out;subst h;refine ze func317 ntmps317 λ_ hs=>?_;exact j4⟩
def Goes (F:FuncId)(cs:List Value)(m:List Av.Piece)(M:AV)(r:List Ent × Int):Prop:=Av.Spec prog GL F (M::cs.map .lit) m λu m'=>u=.tup [dA r.1,int r.2]/\m'=m
theorem TP {f1 f2:FuncId}[FnB prog f1][FnB prog f2]{cs1 cs2:List Value}{m:List Av.Piece}{r1 r2:List Ent × Int}(h1:Goes f1 cs1 m (fO d a f g) r1)(h2:Goes f2 cs2 m (fO d a f g) r2)(hc1:∀ v∈cs1,v.oneCell'=true)(hc2:∀ v∈cs2,v.oneCell'=true)(hp:s.length<=1000000000/\d.length<=1000000000){R:List Ent × Int}
  (hR:R=if X3 ⟨q,s,k,d,a,f,g,h,t⟩=false then ([],1) else if lK ⟨q,s,k,d,a,f,g,h,t⟩=true then r1 else r2) :
  Av.Spec prog GL 305 [.agg 12 [int q,str s,str k,.agg 7 [str d,z8 a,str f,str g],int h,int t],E5 f1 cs1,E5 f2 cs2] m λu m'=>u=.tup [dA R.1,int R.2]/\m'=m:=by
 subst hR;refine ze func305 ntmps305 λ_ hs=>?_;repeat' first|refine Z ?_|intro
 rename_i g3 g2 g1;unfold iL;cases hc:X3 ⟨q,s,k,d,a,f,g,h,t⟩
 ·rw[if_neg (show ¬ false=true by decide),if_pos rfl,dT (show (1:Int)≠0 by decide)];repeat' first|refine Z ?_|intro
  refine U6 _ m (AQ _) ⟨rfl,rfl⟩ ?_;exact u7
 rw[if_pos rfl,if_neg (show ¬ true=false by decide),dZ (show ¬ (0:Int)≠0 by decide)];repeat' first|refine Z ?_|intro
 cases hh:lK ⟨q,s,k,d,a,f,g,h,t⟩
 ·rw[if_neg (show ¬ false=true by decide)];repeat' first|refine Z ?_|intro
  refine gU (args:=[fO d a f g]) (cs:=cs2) m [Av.Piece.var g1 357 (fO d a f g),.var g2 64 (.agg 1 [.lit (.slice none 0 0)]),.var g3 49 (.agg 12 [int q,str s,str k,.agg 7 [str d,z8 a,str f,str g],int h,int t])] (by rw[hs];exact h2) (λu m' hh=>?_) (List.perm_append_comm (l₁:=[Av.Piece.var g1 357 (fO d a f g),.var g2 64 (.agg 1 [.lit (.slice none 0 0)]),.var g3 49 (.agg 12 [int q,str s,str k,.agg 7 [str d,z8 a,str f,str g],int h,int t])]) (l₂:=m)) (hcs:=hc2);obtain⟨rfl,rfl⟩:=hh;refine fF (λok w hS=>hS.perm (m':=[Av.Piece.var g1 357 (fO d a f g),.var g2 64 (.agg 1 [.lit (.slice none 0 0)]),.var g3 49 (.agg 12 [int q,str s,str k,.agg 7 [str d,z8 a,str f,str g],int h,int t])]++m') List.perm_append_comm) ?_;repeat' first|refine Z ?_|intro
  refine l9 m' ⟨rfl,rfl⟩ ?_;exact u7
 rw[if_pos rfl];repeat' first|refine Z ?_|intro
 refine gU (args:=[fO d a f g]) (cs:=cs1) m [Av.Piece.var g1 357 (fO d a f g),.var g2 64 (.agg 1 [.lit (.slice none 0 0)]),.var g3 49 (.agg 12 [int q,str s,str k,.agg 7 [str d,z8 a,str f,str g],int h,int t])] (by rw[hs];exact h1) (λu m' hh=>?_) (List.perm_append_comm (l₁:=[Av.Piece.var g1 357 (fO d a f g),.var g2 64 (.agg 1 [.lit (.slice none 0 0)]),.var g3 49 (.agg 12 [int q,str s,str k,.agg 7 [str d,z8 a,str f,str g],int h,int t])]) (l₂:=m)) (hcs:=hc1);obtain⟨rfl,rfl⟩:=hh;refine fF (λok w hS=>hS.perm (m':=[Av.Piece.var g1 357 (fO d a f g),.var g2 64 (.agg 1 [.lit (.slice none 0 0)]),.var g3 49 (.agg 12 [int q,str s,str k,.agg 7 [str d,z8 a,str f,str g],int h,int t])]++m') List.perm_append_comm) ?_;repeat' first|refine Z ?_|intro
 refine l9 m' ⟨rfl,rfl⟩ ?_;exact u7
end
end Go.Proofs.Z
