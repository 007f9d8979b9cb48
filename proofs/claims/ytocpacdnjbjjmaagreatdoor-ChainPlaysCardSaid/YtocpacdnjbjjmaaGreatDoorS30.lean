/- . -/
import Derived.Test.YtocpacdnjbjjmaaGreatDoorS29
namespace Go.Proofs.YtocpacdnjbjjmaaGreatDoor
open Go Go.RowKit Tw Av
structure Sta where
 h:Int
 t:Int
 r:Hsh
deriving DecidableEq
structure Hdr where
 c:Bs
 h:Int
 t:Int
 r:Hsh
deriving DecidableEq
structure Cli where
 c:Bs
 k:Bs
 p:Int
 f:Bool
 l:List Sta
deriving DecidableEq
abbrev H6 (x:Sta):AV:=.agg 34 [int x.h,int x.t,hA x.r]
abbrev jK (x:Hdr):AV:=.agg 35 [str x.c,int x.h,int x.t,hA x.r]
abbrev rO (x:Cli):AV:=.agg 5 [str x.c,str x.k,int x.p,j3 x.f,.sl 34 (x.l.map H6) none]
class Stas (xs:List AV)(l:outParam (List Sta)):Prop where
 out:xs=l.map H6
instance : Stas [] [] := ⟨rfl⟩
instance {a b:Int}{r:Hsh}{xs:List AV}{l:List Sta}[h:Stas xs l]:Stas (.agg 34 [int a,int b,hA r]::xs) (⟨a,b,r⟩::l):=⟨by rw[h.out];rfl⟩
instance {l:List Sta}:Stas (l.map H6) l:=⟨rfl⟩
instance {xs:List AV}{l:List Sta}{i:Nat}[h:Stas xs l]:Stas (xs.take i) (l.take i):=⟨by rw[h.out,List.map_take]⟩
instance {xs:List AV}{l:List Sta}{i:Nat}[h:Stas xs l]:Stas (xs.drop i) (l.drop i):=⟨by rw[h.out,List.map_drop]⟩
instance {xs ys:List AV}{l k:List Sta}[h:Stas xs l][g:Stas ys k]:Stas (xs++ys) (l++k):=⟨by rw[h.out,g.out,List.map_append]⟩
def X3:Sta:=⟨0,0,J7⟩
def mD:Cli:=⟨[],[],0,false,[]⟩
def kU (x:Hdr):Sta:=⟨x.h,x.t,x.r⟩
def uI (c:Bs)(s:Sta):Hdr:=⟨c,s.h,s.t,s.r⟩
def aS (x:Hdr):Bool:=decide (1<=x.c.length/\x.c.length<=32/\1<=x.h/\x.h<=1099511627776/\0<=x.t/\x.t<=1099511627776)
def pV (x:Hdr):Bs:=o8 99 x.c++D8 104 x.h++D8 116 x.t++o8 114 x.r.l
def kK (k:Bs):Bs:=lS (zeros 64) (if 64<k.length then (Y0 k).l else k)
def O6 (c:UInt8)(l:Bs):Bs:=l.map (· ^^^ c)
def EM (k s:Bs):Hsh:=Y0 (O6 92 (kK k)++(Y0 (O6 54 (kK k)++s)).l)
def tY (k:Bs)(x:Hdr):Hsh:=EM k (pV x)
def fI (a b:Sta):Bool:=decide (a.h<b.h/\a.t<=b.t)
def pR (c:Bs)(l:List Sta)(i:Nat):Bool:=aS (uI c (l.getD i X3))&&(decide (i=0) || fI (l.getD (i-1) X3) (l.getD i X3))
def aN (x:Cli):Bool:=decide (x.k.length<=64/\1<=x.p/\x.p<=1099511627776/\1<=x.l.length/\x.l.length<=32)&&(List.range x.l.length).all (pR x.c x.l)
def LX (k:Bs)(p:Int)(x:Hdr):Cli:=⟨x.c,k,p,false,[kU x]⟩
def xO (k:Bs)(p:Int)(x:Hdr):Int:=if aN (LX k p x)=true then 0 else 1
def BD (k:Bs)(p:Int)(x:Hdr):Cli:=if aN (LX k p x)=true then LX k p x else mD
def eU (l:List Sta):Sta:=l.getLastD X3
def lX (x:Cli)(now:Int):Bool:=!x.f&&decide (now<(eU x.l).t+x.p)
def M9 (l:List Sta)(h:Int):Nat:=l.findIdx fun s=>decide (h<=s.h)
def gK (l:List Sta)(h:Int):Bool:=decide (M9 l h<l.length/\(l.getD (M9 l h) X3).h=h)
def rJ (l:List Sta)(h:Int):Option Sta:=if gK l h=true then some (l.getD (M9 l h) X3) else none
def tJ (l:List Sta)(s:Sta)(i:Nat):Bool:=(decide (0<i) && !fI (l.getD (i-1) X3) s) || (decide (i<l.length) && !fI s (l.getD i X3))
def UN (x:Cli):Cli:={ x with f:=true }
def BQ (l:List Sta)(s:Sta):List Sta:=(l.take (M9 l s.h)++s::l.drop (M9 l s.h)).drop (l.length+1-32)
def lH (x:Cli)(s:Sta):Cli:=
 if gK x.l s.h=true/\x.l.getD (M9 x.l s.h) X3=s then x
 else if gK x.l s.h=true\/tJ x.l s (M9 x.l s.h)=true then UN x
 else { x with l:=BQ x.l s }
def fA (x:Cli)(h:Hdr)(mac:Hsh)(now:Int):Int:=
 if lX x now=false then 19 else if aS h=false\/h.c≠x.c then 1 else if tY x.k h≠mac then 18 else 0
def jR (x:Cli)(h:Hdr)(mac:Hsh)(now:Int):Cli:=if fA x h mac now=0 then lH x (kU h) else mD
def rG (l:List Sta)(h:Int):Option Sta:=l.find? fun s=>decide (s.h=h)
def fH (s x:Sta):Bool:=decide ((x.h<s.h/\s.t<x.t)\/(s.h<x.h/\x.t<s.t))
def kT (s:Sta):Option (List Sta × Bool)->Sta->Option (List Sta × Bool)
 | none,_=>none
 | some (acc,put),x=>if fH s x=true then none else if put=false/\s.h<x.h then some (acc++[s]++[x],true) else some (acc++[x],put)
def xU (l:List Sta)(s:Sta):Option (List Sta):=match l.foldl (kT s) (some ([],false)) with
 | none=>none
 | some (acc,true)=>some acc
 | some (acc,false)=>some (acc++[s])
def VQ (l:List Sta):List Sta:=if 32<l.length then l.drop 1 else l
def KX (x:Cli)(s:Sta):Cli:=match rG x.l s.h with
 | some o=>if o=s then x else UN x
 | none=>match xU x.l s with
  | none=>UN x
  | some l=>{ x with l:=VQ l }
def Rise (l:List Sta):Prop:=l.Pairwise fun a b=>a.h<b.h/\a.t<=b.t
theorem Rise.cons {a:Sta}{l:List Sta}:Rise (a::l)↔(∀ b∈l,a.h<b.h/\a.t<=b.t)/\Rise l:=List.pairwise_cons
theorem Pi (a:Sta)(l:List Sta)(h:Int):M9 (a::l) h=if h<=a.h then 0 else M9 l h+1:=by
 unfold M9;rw[List.findIdx_cons];by_cases hh:h<=a.h <;> simp[hh]
theorem OC (l:List Sta)(h:Int):M9 l h<=l.length:=List.findIdx_le_length
theorem OB:∀ {l:List Sta} (h:Int),Rise l->(∀ x∈l.take (M9 l h),x.h<h)/\(∀ x∈l.drop (M9 l h),h<=x.h)
 | [],h,_=>by simp
 | a::l,h,hr=>by
  rw[Rise.cons] at hr;rw[Pi];by_cases hh:h<=a.h
  ·rw[if_pos hh];refine⟨sm,fun x hx=>?_⟩;rw[List.drop_zero] at hx;rcases List.mem_cons.1 hx with rfl|hx
   ·exact hh
   ·have:=(hr.1 x hx).1;omega
  ·rw[if_neg hh];obtain⟨h1,h2⟩:=OB h hr.2;refine⟨fun x hx=>?_,fun x hx=>?_⟩
   ·rw[List.take_succ_cons] at hx;rcases List.mem_cons.1 hx with rfl|hx
    ·omega
    ·exact h1 x hx
   ·rw[List.drop_succ_cons] at hx;exact h2 x hx
theorem VA:∀ {l:List Sta} (h:Int),Rise l->rG l h=rJ l h
 | [],h,_=>by simp[rG,rJ,gK,M9]
 | a::l,h,hr=>by
  have hr':=hr;rw[Rise.cons] at hr;have ih:=VA h hr.2;unfold rG rJ gK at ih ⊢;rw[List.find?_cons,Pi];by_cases hh:h<=a.h
  ·rw[if_pos hh];by_cases he:a.h=h
   ·simp[he]
   ·have hn:l.find? (fun s=>decide (s.h=h))=none:=by
     rw[List.find?_eq_none];intro x hx;have:=(hr.1 x hx).1;simp;omega
    simp[he,hn]
  ·rw[if_neg hh];have he:¬ a.h=h:=by omega
   simp only[he,decide_false,ih];simp
theorem EE {s x:Sta}{acc:List Sta}{put:Bool}:kT s (some (acc,put)) x=if fH s x=true then none else if put=false/\s.h<x.h then some (acc++[s]++[x],true) else some (acc++[x],put):=rfl
theorem GM {s:Sta}:∀ l:List Sta,l.foldl (kT s) none=none
 | []=>rfl
 | x::l=>by rw[List.foldl_cons];exact GM l
theorem Iw {s:Sta}:∀ (A:List Sta) (acc:List Sta),(∀ x∈A,x.h<s.h)->A.foldl (kT s) (some (acc,false))=if ∀ x∈A,x.t<=s.t then some (acc++A,false) else none
 | [],acc,_=>by simp
 | x::A,acc,h=>by
  have hx:=h x sm;have ih:=Iw A (acc++[x]) (fun y hy=>h y (by simp[hy]));rw[List.foldl_cons,EE];by_cases ht:x.t<=s.t
  ·have h1:fH s x=false:=by simp[fH];omega
   rw[h1,if_neg sm,if_neg om,ih];simp[ht]
  ·have h1:fH s x=true:=by simp[fH];omega
   rw[h1,if_pos rfl,GM,if_neg (fun hall=>ht (hall x sm))]
theorem Iy {s:Sta}:∀ (B:List Sta) (acc:List Sta),(∀ x∈B,s.h<x.h/\s.t<=x.t)->B.foldl (kT s) (some (acc,true))=some (acc++B,true)
 | [],acc,_=>by simp
 | x::B,acc,h=>by
  obtain⟨h1,h2⟩:=h x sm;have h3:fH s x=false:=by simp[fH];omega
  rw[List.foldl_cons,EE];rw[h3,if_neg sm,if_neg sm,Iy B _ (fun y hy=>h y (by simp[hy]))];simp
theorem Rise.append {a b:List Sta}:Rise (a++b)↔Rise a/\Rise b/\∀ x∈a,∀ y∈b,x.h<y.h/\x.t<=y.t:=List.pairwise_append
theorem Pg {l:List Sta}{s:Sta}(hr:Rise l)(hn:gK l s.h=false):∀ x∈l.drop (M9 l s.h),s.h<x.h:=by
 obtain⟨_,p2⟩:=OB s.h hr;generalize hi:M9 l s.h=i at *;intro x hx;have h1:=p2 x hx;rcases Int.lt_or_eq_of_le h1 with h|h
 ·exact h
 ·exfalso
  have hlt:i<l.length:=by
   rcases Nat.lt_or_ge i l.length with h|h
   ·exact h
   ·rw[List.drop_of_length_le h] at hx;cases hx
  rw[List.drop_eq_getElem_cons hlt] at hx p2;have h0:(l.getD i X3).h=s.h:=by
   have hg:l.getD i X3=l[i]:=by simp[List.getD,hlt]
   rw[hg];have h3:=p2 l[i] List.mem_cons_self;rcases List.mem_cons.1 hx with rfl|hx
   ·omega
   ·have hr2:Rise (l.take i++(l[i]::l.drop (i+1))):=by rw[<- List.drop_eq_getElem_cons hlt,List.take_append_drop];exact hr
    have:=((Rise.cons.1 (Rise.append.1 hr2).2.1).1 x hx).1;omega
  simp[gK,hi,hlt] at hn;rw[List.getD,List.getElem?_eq_getElem hlt] at h0;exact hn (by simpa using h0)
theorem a7d {l:List Sta}{s:Sta}(hr:Rise l)(hn:gK l s.h=false):tJ l s (M9 l s.h)=true↔(∃ x∈l.take (M9 l s.h),s.t<x.t)\/(∃ x∈l.drop (M9 l s.h),x.t<s.t):=by
 obtain⟨p1,_⟩:=OB s.h hr;have p3:=Pg hr hn;have hle:=OC l s.h;have rB:Rise (l.drop (M9 l s.h)):=hr.sublist (List.drop_sublist _ _);generalize hi:M9 l s.h=i at *;unfold tJ;rw[Bool.or_eq_true];refine or_congr ?_ ?_
 ·rw[bet,decide_eq_true_eq]
  constructor
  ·rintro⟨h0,h1⟩;have hlt:i-1<l.length:=by omega
   have hg:l.getD (i-1) X3=l[i-1]:=by simp[List.getD,hlt]
   have hm:l[i-1]∈l.take i:=List.mem_take_iff_getElem.2 ⟨i-1,om,rfl⟩;have h2:=p1 _ hm;rw[hg] at h1;refine⟨_,hm,?_⟩;simp[fI] at h1;omega
  ·rintro⟨x,hx,ht⟩;obtain⟨j,hj,rfl⟩:=List.mem_take_iff_getElem.1 hx;have h0:0<i:=by omega
   have hlt:i-1<l.length:=om
   have hg:l.getD (i-1) X3=l[i-1]:=by simp[List.getD,hlt]
   refine⟨h0,?_⟩;rw[hg];have h2:l[j].t<=l[i-1].t:=by
    rcases Nat.lt_or_ge j (i-1) with h|h
    ·exact((List.pairwise_iff_getElem.1 hr) j (i-1) om hlt h).2
    ·have:j=i-1:=by omega
     subst this;exact Int.le_refl _
   simp[fI];omega
 ·rw[bet,decide_eq_true_eq]
  constructor
  ·rintro⟨hlt,h1⟩;have hg:l.getD i X3=l[i]:=by simp[List.getD,hlt]
   have hm:l[i]∈l.drop i:=by rw[List.drop_eq_getElem_cons hlt];exact List.mem_cons_self
   have h2:=p3 _ hm;rw[hg] at h1;refine⟨_,hm,?_⟩;simp[fI] at h1;omega
  ·rintro⟨x,hx,ht⟩;have hlt:i<l.length:=by
    rcases Nat.lt_or_ge i l.length with h|h
    ·exact h
    ·rw[List.drop_of_length_le h] at hx;cases hx
   have hg:l.getD i X3=l[i]:=by simp[List.getD,hlt]
   refine⟨hlt,?_⟩;rw[hg];have h2:l[i].t<=x.t:=by
    rw[List.drop_eq_getElem_cons hlt] at hx rB;rcases List.mem_cons.1 hx with rfl|hx
    ·exact Int.le_refl _
    ·exact((Rise.cons.1 rB).1 x hx).2
   simp[fI];omega
theorem a2X {l:List Sta}{s:Sta}(hr:Rise l)(hn:gK l s.h=false):xU l s=if tJ l s (M9 l s.h)=true then none else some (l.take (M9 l s.h)++s::l.drop (M9 l s.h)):=by
 obtain⟨p1,p2⟩:=OB s.h hr;have hle:=OC l s.h;have p3:=Pg hr hn;have hbad:=a7d hr hn;generalize hi:M9 l s.h=i at *;have hl:l=l.take i++l.drop i:=(List.take_append_drop i l).symm;have hr2:Rise (l.take i++l.drop i):=by rw[<- hl];exact hr
 obtain⟨rA,rB,rAB⟩:=Rise.append.1 hr2;have hfold:l.foldl (kT s) (some ([],false))=(l.drop i).foldl (kT s) ((l.take i).foldl (kT s) (some ([],false))):=by
  rw[<- List.foldl_append,List.take_append_drop]
 unfold xU;rw[hfold,Iw _ _ p1,List.nil_append];by_cases hA:∀ x∈l.take i,x.t<=s.t
 ·rw[if_pos hA];generalize hB:l.drop i=B at *;cases B with
  | nil=>
   have:tJ l s i=false:=by
    rw[<- Bool.not_eq_true,hbad];rintro (⟨x,hx,ht⟩|⟨x,hx,_⟩)
    ·have:=hA x hx;omega
    ·cases hx
   rw[this];rfl
  | cons b B=>
   rw[List.foldl_cons,EE];have hb:=p3 b sm;by_cases ht:s.t<=b.t
   ·have h1:fH s b=false:=by simp[fH];omega
    have h2:tJ l s i=false:=by
     rw[<- Bool.not_eq_true,hbad];rintro (⟨x,hx,h⟩|⟨x,hx,h⟩)
     ·have:=hA x hx;omega
     ·rcases List.mem_cons.1 hx with rfl|hx
      ·omega
      ·have:=((Rise.cons.1 rB).1 x hx).2;omega
    rw[h2,h1,if_neg sm,if_pos ⟨rfl,hb⟩];have:=Iy B (l.take i++[s]++[b]) (fun x hx=>⟨p3 x (by simp[hx]),by have:=((Rise.cons.1 rB).1 x hx).2;omega⟩);rw[this];simp
   ·have h1:fH s b=true:=by simp[fH];omega
    have h2:tJ l s i=true:=hbad.2 (.inr ⟨b,sm,om⟩);rw[h2,h1,if_pos rfl];rw[GM];rfl
 ·rw[if_neg hA,GM];have h2:tJ l s i=true:=hbad.2 (.inl (by
   simp only[Classical.not_forall] at hA;obtain⟨x,hx,h⟩:=hA;exact⟨x,hx,om⟩))
  rw[h2];rfl
theorem a0Q {x:Cli}{s:Sta}(hr:Rise x.l)(hl:x.l.length<=32):KX x s=lH x s:=by
 unfold KX lH;rw[VA _ hr];unfold rJ;by_cases h1:gK x.l s.h=true
 ·rw[if_pos h1];by_cases h2:x.l.getD (M9 x.l s.h) X3=s
  ·simp[h1]
  ·simp[h1]
 ·have h1':gK x.l s.h=false:=by simpa using h1
  rw[if_neg h1];simp only[a2X hr h1'];by_cases h3:tJ x.l s (M9 x.l s.h)=true
  ·simp[h1',h3]
  ·have hle:=OC x.l s.h;have hlen:(x.l.take (M9 x.l s.h)++s::x.l.drop (M9 x.l s.h)).length=x.l.length+1:=by simp;omega
   rw[if_neg h3,if_neg (by simp[h1']),if_neg (by simp[h1',h3])];simp only[VQ,hlen,BQ];by_cases h4:32<x.l.length+1
   ·rw[if_pos h4,show x.l.length+1-32=1 by omega]
   ·rw[if_neg h4,show x.l.length+1-32=0 by omega,List.drop_zero]
attribute [irreducible] aS fI gK tJ aN lX fH

def iG (s:Bs):Bool:=s.all fun c=>decide (c≠47)
def H9 (s:Bs):Bool:=iG s&&decide (1<=s.length/\s.length<=32)
def A8:Bs->List Bs
 | []=>[[]]
 | c::s=>if c=47 then []::A8 s else (c::(A8 s).headD [])::(A8 s).tail
def W9 (s:Bs):Bool:=decide (s.length<=200)&&((A8 s).all H9&&decide ((A8 s).length<=5))
def iK (s:Bs):Nat:=if W9 s=true then s.count 47 else 0
def SA (c d:Bs):Bool:=decide (d.take (c.length+1)=c++[47])
def qO (c d:Bs):Bool:=SA c d&&W9 (d.drop (c.length+1))
def zY (c d:Bs):Bs:=if qO c d=true then d.drop (c.length+1) else []
def M5 (s:Bs):Bool:=decide (1<=s.length/\s.length<=64)
def V3 (s:Bs):Bool:=decide (1<=s.length/\s.length<=200)
def F7 (a d:Bs):Bs:=[66]++o8 97 a++o8 100 d
def O4 (d:Bs):Bs:=[83]++o8 100 d
def D7 (d:List Ent)(k:Bs):Wd:=if (Q3 d k).length=32 then X4 (iQ (Q3 d k)) else wZ
def eT (k:Bs)(n:Wd)(d:List Ent):List Ent × Int:=if T9 ((D7 d k).n+n.n)=true then U2 d k (X9 ((D7 d k).n+n.n)) else ([],17)
def dU (k:Bs)(n:Wd)(d:List Ent):List Ent × Int:=if (D7 d k).n<n.n then ([],16) else if (D7 d k).n=n.n then (jM d k,0) else U2 d k (X9 ((D7 d k).n-n.n))
def U6 (a b:List Ent->List Ent × Int)(d:List Ent):List Ent × Int:=if (a d).2=0 then b (a d).1 else a d
def iI (d:List Ent)(a c:Bs)(n:Wd):List Ent × Int:=if M5 a=false\/V3 c=false\/n.n=0 then ([],1) else if T9 ((D7 d (F7 a c)).n+n.n)=false then ([],17) else U6 (eT (O4 c) n) (eT (F7 a c) n) d
def uV (d:List Ent)(a c:Bs)(n:Wd):List Ent × Int:=if M5 a=false\/V3 c=false\/n.n=0 then ([],1) else U6 (dU (O4 c) n) (dU (F7 a c) n) d
def eQ (d:List Ent)(a b c:Bs)(n:Wd):List Ent × Int:=if M5 a=false\/M5 b=false\/V3 c=false\/n.n=0 then ([],1)
 else if a=b/\(U6 (dU (F7 a c) n) (eT (F7 b c) n) d).2≠16 then (d,0) else U6 (dU (F7 a c) n) (eT (F7 b c) n) d
def J3 (k i:Bs):Bs:=k++o8 105 i
def Z7 (k i:Bs)(n:Int):Bs:=J3 k i++D8 113 n
def rE (s:Bs):Int:=P5 (j5 110 8 s false) (K3 110 1099511627776 s false)
def xS (s:Bs):Int:=if rE s=0 then J8 110 1099511627776 s false else 0
structure EndX where
 s:Int
 o:Bs
 q:Bs
 p:Bs
deriving DecidableEq
abbrev GX (x:EndX):AV:=.agg 4 [int x.s,str x.o,str x.q,str x.p]
def vD:EndX:=⟨0,[],[],[]⟩
def fM (x:EndX):Bool:=decide (1<=x.s/\x.s<=4)&&(H9 x.o&&(H9 x.q&&if x.s=1 then decide (x.p=[]) else H9 x.p))
def UD (x:EndX)(s:Int):Bool:=decide (x.s=s)&&fM x
def BR (o q:Bs):EndX × Int:=if H9 o=true/\H9 q=true then (⟨1,o,q,[]⟩,0) else (vD,1)
def zM (o p:Bs)(t:EndX):EndX × Int:=if H9 o=false\/H9 p=false then (vD,1) else if UD t 1=false\/t.q≠o then (vD,13) else (⟨2,o,t.o,p⟩,0)
def a2f (x t:EndX)(i:Bs):Bool:=decide (t.o=x.q/\t.q=x.o/\t.p=i)
def Eg (x:EndX)(a:Int)(i p:Bs)(t:EndX)(b:Int):EndX × Int:=if UD x a=true/\UD t b=true/\a2f x t i=true then (⟨3,x.o,x.q,p⟩,0) else (vD,13)
def IW (x:EndX)(i p:Bs)(t:EndX):EndX × Int:=if H9 i=false\/H9 p=false then (vD,1) else Eg x 1 i p t 2
def IJ (x:EndX)(i:Bs)(t:EndX):EndX × Int:=Eg x 2 i x.p t 3
def iL (x:EndX):Bs:=D8 115 x.s++o8 111 x.o++o8 113 x.q++o8 112 x.p
def mV (s:Bs):Bs:=j5 115 8 s false
def uD (s:Bs):Bool:=K3 115 4 s false
def mU (s:Bs):Bs:=j5 111 32 (mV s) (uD s)
def uC (s:Bs):Bool:=A7 111 32 (mV s) (uD s)
def bX (s:Bs):Bs:=j5 113 32 (mU s) (uC s)
def fV (s:Bs):Bool:=A7 113 32 (mU s) (uC s)
def qQ (s:Bs):EndX:=⟨J8 115 4 s false,D5 111 32 (mV s) (uD s),D5 113 32 (mU s) (uC s),D5 112 32 (bX s) (fV s)⟩
def qP (s:Bs):Int:=P5 (j5 112 32 (bX s) (fV s)) (A7 112 32 (bX s) (fV s))
def xH (s:Bs):Bool:=decide (qP s=0)&&fM (qQ s)
def kD (s:Bs):EndX:=if xH s=true then qQ s else vD
def pE (s:Bs):Int:=if xH s=true then 0 else 10
structure Pkt where
 q:Int
 s:Bs
 k:Bs
 d:Bs
 a:Wd
 f:Bs
 g:Bs
 h:Int
 t:Int
deriving DecidableEq
abbrev Dz (x:Pkt):AV:=.agg 12 [int x.q,str x.s,str x.k,.agg 7 [str x.d,C9 x.a,str x.f,str x.g],int x.h,int x.t]
def Rz:Pkt:=⟨0,[],[],[],wZ,[],[],0,0⟩
def Y3 (s:Bs):Bool:=iG s&&M5 s
def LU (x:Pkt):Bool:=decide (1<=x.q/\x.q<=1099511627776/\0<=x.h/\x.h<=1099511627776/\0<=x.t/\x.t<=1099511627776/\¬ (x.h=0/\x.t=0))
def FV (x:Pkt):Bool:=H9 x.s&&(H9 x.k&&W9 x.d)
def II (x:Pkt):Bool:=decide (x.a.n≠0)&&(Y3 x.f&&Y3 x.g)
def dJ (x:Pkt):Bool:=LU x&&(FV x&&II x)
def LA (x:Pkt):Bs:=D8 113 x.q++D8 104 x.h++D8 116 x.t++o8 115 x.s++o8 107 x.k++o8 100 x.d++o8 97 (X9 x.a.n)++o8 102 x.f++o8 103 x.g
def nD (x:Pkt):Bs:=(Y0 ([80]++LA x)).l
def jH (x:Pkt)(h t:Int):Bool:=decide ((x.h≠0/\x.h<=h)\/(x.t≠0/\x.t<=t))
def NE (e:Int):Bs:=[45,UInt8.ofNat e.toNat]
def Rn (s:Bs):Bool:=match s with
 | [43]=>true
 | [45,c]=>decide (c≠0)
 | _=>false
def Rm (s:Bs):Int:=match s with
 | [45,c]=>c.toNat
 | _=>0
def FE (s:Bs):Bs:=(Y0 ([65]++s)).l
def sS (x:Pkt):Bool:=qO x.s x.d
def uY (x:Pkt):Bs:=if sS x=true then x.d.drop (x.s.length+1) else x.k++[47]++x.d
def CB (s:Bs):Bs:=[101,115,99,114,111,119,47]++s
def mM (d:List Ent)(x:Pkt):List Ent × Int:=if dJ x=false then ([],1) else if sS x=true then uV d x.f x.d x.a else eQ d x.f (CB x.s) x.d x.a
def bV (d:List Ent)(x:Pkt):List Ent × Int:=if W9 (uY x)=false\/dJ x=false then ([],1) else if sS x=true then eQ d (CB x.k) x.g (uY x) x.a else iI d x.g (uY x) x.a
def wL (d:List Ent)(x:Pkt):List Ent × Int:=if dJ x=false then ([],1) else if sS x=true then iI d x.f x.d x.a else eQ d (CB x.s) x.f x.d x.a

def R7 (k:Bs)(n:Nat)(d:List Ent):List Ent × Int:=if n=0 then (jM d k,0) else U2 d k (X9 n)
def TP (d:List Ent)(a c:Bs)(n:Wd):List Ent × Int:=if M5 a=false\/V3 c=false\/n.n=0 then ([],1)
 else if T9 ((D7 d (O4 c)).n+n.n)=false\/T9 ((D7 d (F7 a c)).n+n.n)=false then ([],17)
 else U6 (R7 (O4 c) ((D7 d (O4 c)).n+n.n)) (R7 (F7 a c) ((D7 d (F7 a c)).n+n.n)) d
def WH (d:List Ent)(a c:Bs)(n:Wd):List Ent × Int:=if M5 a=false\/V3 c=false\/n.n=0 then ([],1)
 else if (D7 d (O4 c)).n<n.n\/(D7 d (F7 a c)).n<n.n then ([],16)
 else U6 (R7 (O4 c) ((D7 d (O4 c)).n-n.n)) (R7 (F7 a c) ((D7 d (F7 a c)).n-n.n)) d
def TG (d:List Ent)(a b c:Bs)(n:Wd):List Ent × Int:=if M5 a=false\/M5 b=false\/V3 c=false\/n.n=0 then ([],1)
 else if (D7 d (F7 a c)).n<n.n then ([],16)
 else if a=b then (d,0)
 else if T9 ((D7 d (F7 b c)).n+n.n)=false then ([],17)
 else U6 (R7 (F7 a c) ((D7 d (F7 a c)).n-n.n)) (R7 (F7 b c) ((D7 d (F7 b c)).n+n.n)) d
theorem PZ {c:Int}{s:Bs}(h:s.length<=16777215):(o8 c s).length=s.length+4:=by
 rw[wU h];simp
theorem Xi {c:Int}{a b r t:Bs}(h0:0<=c)(h1:c<256)(ha:a.length<=1000)(hb:b.length<=1000)(h:o8 c a++r=o8 c b++t):a=b/\r=t:=by
 have e1:=VP (c:=c) (most:=1000) (s:=a) (r:=r) h0 h1 om om;have e2:=VP (c:=c) (most:=1000) (s:=b) (r:=t) h0 h1 om om;rw[h,e2] at e1;injection e1 with e1
 injection e1 with e1 e3
 exact⟨e1.symm,e3.symm⟩
theorem TC {s:Bs}(h:M5 s=true):1<=s.length/\s.length<=64:=of_decide_eq_true h
theorem Lj {s:Bs}(h:V3 s=true):1<=s.length/\s.length<=200:=of_decide_eq_true h
theorem a7c {a b c:Bs}(ha:M5 a=true)(hb:M5 b=true)(h:a≠b):F7 a c≠F7 b c:=fun e=>by
 have:=TC ha;have:=TC hb;unfold F7 at e;rw[laa,laa] at e;exact h (Xi dc dc om om (List.append_cancel_left e)).1
theorem NZ {a c t:Bs}:F7 a c≠O4 t:=fun e=>by
 unfold F7 O4 at e;rw[laa] at e;injection e with e
 cases e
theorem Oz {a c:Bs}(ha:M5 a=true)(hc:V3 c=true):(F7 a c).length<=400:=by
 have:=TC ha;have:=Lj hc;unfold F7;rw[lla,lla,PZ om,PZ om];simp;omega
theorem Xe {c:Bs}(hc:V3 c=true):(O4 c).length<=400:=by
 have:=Lj hc;unfold O4;rw[lla,PZ om];simp;omega
theorem a3G {d:List Ent}{k v q:Bs}(h:Srt d)(hq:q≠k):D7 (gD d k v) q=D7 d q:=by
 unfold D7;rw[Vw h,if_neg hq]
theorem a3I {d:List Ent}{k q:Bs}(h:Srt d)(hq:q≠k):D7 (jM d k) q=D7 d q:=by
 unfold D7;rw[Vx h,if_neg hq]
theorem a0M {d:List Ent}{k v q:Bs}(h:Srt d)(hq:q≠k)(he:(U2 d k v).2=0):D7 (U2 d k v).1 q=D7 d q:=by
 unfold U2 at he ⊢;split
 ·exact a3G h hq
 ·rename_i h1;rw[if_neg h1] at he;exact absurd he h1
theorem EK {d:List Ent}{k q:Bs}{n:Nat}(h:Srt d)(hq:q≠k)(he:(R7 k n d).2=0):D7 (R7 k n d).1 q=D7 d q:=by
 unfold R7 at he ⊢;split
 ·exact a3I h hq
 ·rename_i h1;rw[if_neg h1] at he;exact a0M h hq he
theorem a3H {d:List Ent}{k:Bs}(h:Srt d)(hp:0<(D7 d k).n):Q0 d k=true:=by
 rw[MO h];unfold D7 Q3 at hp;cases e:gO d k with
 | none=>
  rw[e] at hp;exact absurd hp dc
 | some v=>rfl
theorem TT {d:List Ent}{k:Bs}{n:Wd}(h:DOk d)(hk:k.length<=400)(hn:n.n≠0)(hle:n.n<=(D7 d k).n):dU k n d=R7 k ((D7 d k).n-n.n) d/\(dU k n d).2=0:=by
 have hb:Q0 d k=true:=a3H h.s om;have he:∀ v:Bs,v.length<=4000->K7 d k v=0:=fun v hv=>a0P.2 ⟨hk,hv,.inl hb⟩;unfold dU R7;rw[if_neg om];by_cases h1:(D7 d k).n=n.n
 ·rw[if_pos h1,if_pos om];exact⟨rfl,rfl⟩
 ·rw[if_neg h1,if_neg om];refine⟨rfl,?_⟩;rw[Dl];exact he _ (by rw[yO];omega)
theorem LZ {d:List Ent}{k:Bs}{n:Wd}(hn:n.n≠0):eT k n d=if T9 ((D7 d k).n+n.n)=true then R7 k ((D7 d k).n+n.n) d else ([],17):=by
 unfold eT R7;split
 ·rw[if_neg om]
 ·rfl
theorem a1R {d:List Ent}{k:Bs}{n:Wd}:(eT k n d).2≠16:=by
 unfold eT;split
 ·rw[Dl];unfold K7;split
  ·decide
  ·split
   ·decide
   ·split <;> decide
 ·decide
theorem a2d {d:List Ent}(h:DOk d)(a c:Bs)(n:Wd):iI d a c n=TP d a c n:=by
 unfold iI TP;split
 ·rfl
 ·rename_i h1;simp only[not_or,Bool.not_eq_false] at h1;obtain⟨h2,h3,h4⟩:=h1;by_cases h5:T9 ((D7 d (F7 a c)).n+n.n)=false
  ·rw[if_pos h5,if_pos (.inr h5)]
  ·rw[if_neg h5];have h5':T9 ((D7 d (F7 a c)).n+n.n)=true:=by simpa using h5
   unfold U6;by_cases h6:T9 ((D7 d (O4 c)).n+n.n)=false
   ·have m1:eT (O4 c) n d=([],17):=by rw[LZ h4,if_neg (by simp[h6])]
    have n0:¬ (([],17):List Ent × Int).2=0:=dc
    rw[m1,if_neg n0,if_pos (.inl h6)]
   ·have h6':T9 ((D7 d (O4 c)).n+n.n)=true:=by simpa using h6
    have m1:eT (O4 c) n d=R7 (O4 c) ((D7 d (O4 c)).n+n.n) d:=by rw[LZ h4,if_pos h6']
    have hc:¬ (T9 ((D7 d (O4 c)).n+n.n)=false\/T9 ((D7 d (F7 a c)).n+n.n)=false):=by rw[h5',h6'];decide
    rw[m1,if_neg hc];by_cases h7:(R7 (O4 c) ((D7 d (O4 c)).n+n.n) d).2=0
    ·rw[if_pos h7,if_pos h7,LZ h4,EK h.s NZ h7,if_pos h5']
    ·rw[if_neg h7,if_neg h7]
theorem a6G {d:List Ent}(h:DOk d)(a c:Bs)(n:Wd):uV d a c n=WH d a c n:=by
 unfold uV WH;split
 ·rfl
 ·rename_i h1;simp only[not_or,Bool.not_eq_false] at h1;obtain⟨h2,h3,h4⟩:=h1;unfold U6;by_cases h5:(D7 d (O4 c)).n<n.n
  ·have n0:¬ (([],16):List Ent × Int).2=0:=dc
   have:dU (O4 c) n d=([],16):=by rw[dU,if_pos h5]
   rw[this,if_neg n0,if_pos (.inl h5)]
  ·obtain⟨e1,e2⟩:=TT h (Xe h3) h4 (by omega:n.n<=(D7 d (O4 c)).n);have e3:=e2;rw[e1] at e3;rw[if_pos e2,e1];have hd:DOk (R7 (O4 c) ((D7 d (O4 c)).n-n.n) d).1:=by
    unfold R7 at e3 ⊢;split
    ·exact h.drp _
    ·rename_i h8;rw[if_neg h8] at e3;exact a0K h e3
   by_cases h6:(D7 d (F7 a c)).n<n.n
   ·rw[if_pos (show (D7 d (O4 c)).n<n.n\/(D7 d (F7 a c)).n<n.n from .inr h6),dU,EK h.s NZ e3,if_pos h6]
   ·rw[if_neg (show ¬ ((D7 d (O4 c)).n<n.n\/(D7 d (F7 a c)).n<n.n) by omega),if_pos e3,(TT hd (Oz h2 h3) h4 (by rw[EK h.s NZ e3];omega)).1,EK h.s NZ e3]
theorem a1O {d:List Ent}(h:DOk d)(a b c:Bs)(n:Wd):eQ d a b c n=TG d a b c n:=by
 unfold eQ TG;split
 ·rfl
 ·rename_i h1;simp only[not_or,Bool.not_eq_false] at h1;obtain⟨h2,h2',h3,h4⟩:=h1;by_cases h5:(D7 d (F7 a c)).n<n.n
  ·have e1:U6 (dU (F7 a c) n) (eT (F7 b c) n) d=([],16):=by
    unfold U6;have:dU (F7 a c) n d=([],16):=by rw[dU,if_pos h5]
    rw[this,if_neg (show ¬ (([],16):List Ent × Int).2=0 by decide)]
   rw[e1,if_neg (show ¬ (a=b/\(([],16):List Ent × Int).2≠16) from fun hh=>hh.2 rfl),if_pos h5]
  ·obtain⟨e1,e2⟩:=TT h (Oz h2 h3) h4 (by omega:n.n<=(D7 d (F7 a c)).n);have e3:=e2;rw[e1] at e3;have e4:U6 (dU (F7 a c) n) (eT (F7 b c) n) d=eT (F7 b c) n (R7 (F7 a c) ((D7 d (F7 a c)).n-n.n) d).1:=by
    unfold U6;rw[if_pos e2,e1]
   rw[if_neg h5,e4];by_cases h6:a=b
   ·rw[if_pos ⟨h6,a1R⟩,if_pos h6]
   ·rw[if_neg (fun hh=>h6 hh.1),if_neg h6,LZ h4,EK h.s (a7c h2' h2 (fun e=>h6 e.symm)) e3];unfold U6;rw[if_pos e3];by_cases h7:T9 ((D7 d (F7 b c)).n+n.n)=true
    ·rw[if_pos h7,if_neg (by simp[h7])]
    ·rw[if_neg h7,if_pos (by simpa using h7)]
theorem vP {d:List Ent}{k v:Bs}(h:DOk d):DOk (U2 d k v).1:=by
 unfold U2;split
 ·rename_i h1;exact h.put h1
 ·exact .nil
theorem MB {d:List Ent}{k:Bs}{n:Wd}(h:DOk d):DOk (eT k n d).1:=by
 unfold eT;split
 ·exact vP h
 ·exact .nil
theorem MJ {d:List Ent}{k:Bs}{n:Wd}(h:DOk d):DOk (dU k n d).1:=by
 unfold dU;split
 ·exact .nil
 ·split
  ·exact h.drp _
  ·exact vP h
theorem EB {d:List Ent}{a b:List Ent->List Ent × Int}(h:DOk d)(ha:∀ d,DOk d->DOk (a d).1)(hb:∀ d,DOk d->DOk (b d).1):DOk (U6 a b d).1:=by
 unfold U6;split
 ·exact hb _ (ha _ h)
 ·exact ha _ h
theorem TN {d:List Ent}{a c:Bs}{n:Wd}(h:DOk d):DOk (iI d a c n).1:=by
 unfold iI;split
 ·exact .nil
 ·split
  ·exact .nil
  ·exact EB h (fun _ h=>MB h) (fun _ h=>MB h)
theorem a6H {d:List Ent}{a c:Bs}{n:Wd}(h:DOk d):DOk (uV d a c n).1:=by
 unfold uV;split
 ·exact .nil
 ·exact EB h (fun _ h=>MJ h) (fun _ h=>MJ h)
theorem LY {d:List Ent}{a b c:Bs}{n:Wd}(h:DOk d):DOk (eQ d a b c n).1:=by
 unfold eQ;split
 ·exact .nil
 ·split
  ·exact h
  ·exact EB h (fun _ h=>MJ h) (fun _ h=>MB h)
theorem ZY {d:List Ent}{x:Pkt}(h:DOk d):DOk (mM d x).1:=by
 unfold mM;split
 ·exact .nil
 ·split
  ·exact a6H h
  ·exact LY h
theorem Cq {d:List Ent}{x:Pkt}(h:DOk d):DOk (bV d x).1:=by
 unfold bV;split
 ·exact .nil
 ·split
  ·exact LY h
  ·exact TN h
theorem a7e {d:List Ent}{x:Pkt}(h:DOk d):DOk (wL d x).1:=by
 unfold wL;split
 ·exact .nil
 ·split
  ·exact TN h
  ·exact LY h
end Go.Proofs.YtocpacdnjbjjmaaGreatDoor

namespace Go.Proofs.YtocpacdnjbjjmaaGreatDoor
open Go Go.RowKit Tw Av Go.Proofs.Tryz
def fill {α:Type}(f:α->Value)(z:Value)(l:List α)(i:Nat):List AV:=(l.take i).map (fun x=>.lit (f x))++List.replicate (l.length-i) (.lit z)
instance {α:Type}{f:α->Value}{z:Value}{l:List α}{i:Nat}:Siz (fill f z l i) 1:=by unfold fill;infer_instance
theorem Km {α:Type}{f:α->Value}{z:Value}{l:List α}{i:Nat}(h:i<=l.length):(fill f z l i).length=l.length:=by simp[fill];omega
theorem Kl {α:Type}{f:α->Value}{z:Value}{l:List α}{i:Nat}(h:i<l.length):(fill f z l i).set i (.lit (f l[i]))=fill f z l (i+1):=by
 have hl:((l.take i).map fun x=>AV.lit (f x)).length=i:=by simp;omega
 unfold fill;rw[List.set_append,if_neg om,hl,Nat.sub_self,show l.length-i=(l.length-(i+1))+1 by omega,List.replicate_succ,List.set_cons_zero,List.take_succ_eq_append_getElem h,List.map_append,laa];rfl
theorem Kn {α:Type}{f:α->Value}{z:Value}{l:List α}:fill f z l l.length=l.map fun x=>.lit (f x):=by simp[fill]
class U8s (xs:List AV)(l:outParam Bs):Prop where
 out:xs=l.map p9
instance {l:Bs}:U8s (l.map p9) l:=⟨rfl⟩
instance {xs:List AV}{l:Bs}{i:Nat}[h:U8s xs l]:U8s (xs.take i) (l.take i):=⟨by rw[h.out,List.map_take]⟩
instance {xs:List AV}{l:Bs}{i:Nat}[h:U8s xs l]:U8s (xs.drop i) (l.drop i):=⟨by rw[h.out,List.map_drop]⟩
instance b5T {x:H8}{xs:List AV}{blk:Bs}{id:Option Value}[h:U8s xs blk]:Ans prog GL 239 [sD,mY x,.sl 1 xs id] (blk.length=64) (mY (wF x blk)):=by
 rw[h.out]
 infer_instance
def lI (n:Nat):Nat:=(119-n%64)%64
theorem a1e (s:Bs):(pad s).length=s.length+1+lI s.length+8:=by
 have:(eF (8*s.length)).length=8:=rfl;simp[pad,zeros,this,lI];omega
theorem tO (q:Nat):Value.int .u8 (IntKind.u8.wrap (q:Int))=j6 (UInt8.ofNat q):=by
 unfold j6;rw[IntKind.wrap_u8];congr 1
attribute [local irreducible] Av.Obl
set_option maxHeartbeats 4000000 in
instance a4j {s:Bs}:Ans prog GL 168 [sD,str s] (s.length<=35184372088832) (hA (Y0 s)):=⟨fun hl=>by
 refine qE func168 rfl ntmps168 rfl (fun _ hs=>?_);repeat' (first|refine iN ?_|refine WS ?_|refine WW (fun _=>?_)|refine OV (fun _=>?_)|intro _|fail)
 rename_i g2 g4;refine a8w (fun v=>?_);repeat' first|refine Wz ?_|intro _
 refine I4 (fun v'=>?_);repeat' first|refine Wz ?_|intro _
 have hZ:lI s.length<64:=by unfold lI;omega
 have hs0:s.map (fun c=>AV.lit (j6 c))++[.lit (.int .u8 128)]=(s++128::zeros 0).map p9:=by
  rw[List.map_append];rfl
 refine aM 5 (v':=.sl 1 ((s++128::zeros 0).map p9) (some v')) (Imp.of_eq (by rw[<- hs0])) ?_;refine z8 (α:=Nat × Value) (fun q=>[(1,str s),(2,ptr g2),(4,ptr g4),(5,.sl 1 ((s++128::zeros q.1).map p9) (some q.2))]) (fun q=>[.tail 5 1 q.2,.var g4 48 (hA J7),.var g2 234 sD])
  (fun q=>q.1<=lI s.length) (fun q=>lI s.length-q.1) (0,v') ⟨rfl,rfl,rfl,rfl,trivial⟩ slr (Nat.zero_le _) ?_
 rintro⟨z,v''⟩ hz;dsimp only at hz ⊢;have hlz:((s++128::zeros z).map p9).length=s.length+1+z:=by simp[zeros];omega
 repeat' first|refine Wz ?_|intro _
 refine o9 (fun hne=>?_) (fun hne=>?_)
 ·repeat' first|refine Wz ?_|intro _
  rw[hlz] at hne;refine I4 (hb:=by rw[hlz];simp;omega) (hl:=by rw[hlz];simp[maxLen];omega) (fun v3=>?_);repeat' first|refine Wz ?_|intro _
  have e:(s++128::zeros z).map p9++[.lit (.int .u8 0)]=(s++128::zeros (z+1)).map p9:=by
   simp[zeros,List.replicate_succ',j6]
  rw[e];exact o6 (z+1,v3) ⟨rfl,rfl,rfl,rfl,trivial⟩ slr (by simp only;unfold lI at *;omega) (by simp only;unfold lI at *;omega)
 ·rw[hlz] at hne;obtain rfl:z=lI s.length:=by unfold lI at *;omega
  repeat' first|refine Wz ?_|intro _
  refine yY ?_;have hw:IntKind.u64.wrap ((s.length:Int)*8)=((8*s.length:Nat):Int):=by rw[IntKind.wrap_u64];omega
  rw[hw];repeat' first|refine Wz ?_|intro _
  generalize hB:s++128::zeros (lI s.length)=B at *;have hlB:B.length=s.length+1+lI s.length:=by simpa using hlz
  refine z8 (α:=Nat × Value) (fun q=>[(2,ptr g2),(4,ptr g4),(5,.sl 1 ((B++(eF (8*s.length)).take q.1).map p9) (some q.2)),(6,.lit (.int .u64 ((8*s.length:Nat):Int))),(7,int (7-(q.1:Int)))]) (fun q=>[.tail 5 1 q.2,.var g4 48 (hA J7),.var g2 234 sD])
   (fun q=>q.1<=8) (fun q=>8-q.1) (0,v'') ⟨rfl,rfl,by simp;rfl,rfl,rfl,trivial⟩ slr (Nat.zero_le _) ?_
  rintro⟨i,v4⟩ hi;dsimp only at hi ⊢;have hl8:(eF (8*s.length)).length=8:=rfl;have hlq:((B++(eF (8*s.length)).take i).map p9).length=B.length+i:=by simp[hl8];omega
  repeat' first|refine Wz ?_|intro _
  refine o9 (fun hge=>?_) (fun hge=>?_)
  ·repeat' first|refine Wz ?_|intro _
   refine IP (k:=.u64) (n:=8*(7-i)) (hb:=by show _=((8*(7-i):Nat):Int);omega) (hn:=Nat.ble_eq_true_of_le (show 8*(7-i)<=64 by omega)) ?_;repeat' first|refine Wz ?_|intro _
   rw[<- Int.natCast_ediv,tO];refine I4 (hb:=by rw[hlq];simp;omega) (hl:=by rw[hlq];simp[maxLen];omega) (fun v5=>?_);repeat' first|refine Wz ?_|intro _
   have hg:=Ox (8*s.length) (7-i) om;rw[show 7-(7-i)=i by omega] at hg;have hi8:i<(eF (8*s.length)).length:=by omega
   have e:(B++(eF (8*s.length)).take i).map p9++[.lit (j6 (UInt8.ofNat (8*s.length / 2 ^ (8*(7-i)))))]=(B++(eF (8*s.length)).take (i+1)).map p9:=by
    rw[List.getElem?_eq_getElem hi8] at hg;injection hg with hg
    rw[<- hg,List.take_succ_eq_append_getElem hi8,<- laa,List.map_append (l₁:=B++List.take i _)];rfl
   rw[e];have e7:(7:Int)-(i:Int)-1=7-((i+1:Nat):Int):=by omega
   rw[e7];exact o6 (i+1,v5) ⟨rfl,rfl,rfl,rfl,rfl,trivial⟩ slr (by simp only;omega) (by simp only;omega)
  ·obtain rfl:i=8:=by omega
   rw[List.take_of_length_le om] at hlq ⊢;have hP:B++eF (8*s.length)=pad s:=by rw[<- hB,pad,laa];rfl
   rw[hP] at hlq ⊢;have hlP:(pad s).length=s.length+1+lI s.length+8:=a1e s;have hm64:(pad s).length%64=0:=by rw[hlP];unfold lI;omega
   generalize hPP:pad s=P at *;repeat' first|refine Wz ?_|intro _
   rename_i g8;refine z8 (α:=Nat) (fun i=>[(2,ptr g2),(4,ptr g4),(5,.sl 1 (P.map p9) (some v4)),(8,ptr g8),(9,int i)]) (fun i=>[.var g8 317 (.agg 8 (fill y8 (y8 0) h0.words i)),.tail 5 1 v4,.var g4 48 (hA J7),.var g2 234 sD])
    (fun i=>i<=8) (fun i=>8-i) 0 ⟨rfl,rfl,rfl,rfl,rfl,trivial⟩ slr (Nat.zero_le _) ?_
   intro i hi;have hw8:h0.words.length=8:=rfl;repeat' first|refine Wz ?_|intro _
   refine o9 (fun hlt=>?_) (fun hlt=>?_)
   ·have hi8:i<h0.words.length:=om
    repeat' first|refine Wz ?_|intro _
    refine Z0 (l:=h0.words) (f:=fun x=>.lit (y8 x)) i hi8 ?_;repeat' first|refine Wz ?_|intro _
    refine O8 i ?_;repeat' first|refine Wz ?_|intro _
    refine lU (j:=i) (ps:=fill y8 (y8 0) h0.words i) (by rw[Km om];omega) ?_;rw[Kl hi8];repeat' first|refine Wz ?_|intro _
    exact o6 (i+1) ⟨rfl,rfl,rfl,rfl,rfl,trivial⟩ slr om om
   ·obtain rfl:i=h0.words.length:=by omega
    rw[Kn];repeat' first|refine Wz ?_|intro _
    refine z8 (α:=Nat) (fun q=>[(2,ptr g2),(4,ptr g4),(5,.sl 1 (P.map p9) (some v4)),(8,ptr g8),(10,int (64*(q:Int)))]) (fun q=>[.var g8 317 (mY (iT h0 q P)),.tail 5 1 v4,.var g4 48 (hA J7),.var g2 234 sD])
     (fun q=>64*q<=P.length) (fun q=>P.length-64*q) 0 ⟨rfl,rfl,rfl,rfl,rfl,trivial⟩ slr (Nat.zero_le _) ?_
    intro q hq;have hlPm:(P.map p9).length=P.length:=llm _;repeat' first|refine Wz ?_|intro _
    refine o9 (fun hlt=>?_) (fun hlt=>?_)
    ·rw[hlPm] at hlt;repeat' first|refine Wz ?_|intro _
     apply u7 [];exact rfl;exact rfl;kernel_rfl;intro _ _;refine wN (64*q) (64*q+64) ?_;exact j4 (o7 rfl rfl);repeat' first|refine Wz ?_|intro _
     have e:wF (iT h0 q P) ((P.take (64*q+64)).drop (64*q))=iT h0 (q+1) P:=by
      rw[WZ,List.drop_take];congr 2
      omega
     rw[e];have e2:(64:Int)*(q:Int)+64=64*((q+1:Nat):Int):=by omega
     rw[e2];exact o6 (q+1) ⟨rfl,rfl,rfl,rfl,rfl,trivial⟩ slr om om
    ·rw[hlPm] at hlt;obtain rfl:q=P.length / 64:=by omega
     have hsha:Y0 s=⟨(iT h0 (P.length / 64) P).bytes,rfl⟩:=Hsh.ext' (by rw[<- hPP];rfl);rw[hsha];generalize iT h0 (P.length / 64) P=X at *;repeat' first|refine Wz ?_|intro _
     rename_i g11;refine z8 (α:=Nat) (fun i=>[(4,ptr g4),(8,ptr g8),(11,ptr g11),(12,int i)]) (fun i=>[.var g11 48 (.agg 32 (fill j6 (j6 0) X.bytes i)),.var g8 317 (mY X),.var g4 48 (hA J7)])
      (fun i=>i<=32) (fun i=>32-i) 0 ⟨rfl,rfl,rfl,rfl,trivial⟩ (by repeat (first|exact List.nil_sublist _|exact List.Sublist.refl _|apply List.Sublist.cons_cons|apply List.Sublist.cons)) (Nat.zero_le _) ?_
     intro i hi;have hb32:X.bytes.length=32:=rfl;repeat' first|refine Wz ?_|intro _
     refine o9 (fun hlt=>?_) (fun hlt=>?_)
     ·have hi32:i<X.bytes.length:=om
      repeat' first|refine Wz ?_|intro _
      refine O8 (i / 4) ?_;repeat' first|refine Wz ?_|intro _
      refine bR (j:=i / 4) (ps:=X.words.map fun x=>.lit (y8 x)) (u:=dL (X.words.getD (i / 4) 0)) (by rw[List.getElem?_map,PP X (i / 4) om];rfl) ?_;repeat' first|refine Wz ?_|intro _
      refine OI (24-8*(i%4)) ?_;repeat' first|refine Wz ?_|intro _
      have hg:=Nv X i om;rw[List.getElem?_eq_getElem hi32] at hg;injection hg with hg
      rw[BitVec.toNat_ushiftRight,Nat.shiftRight_eq_div_pow,tO,<- hg];refine O8 i ?_;refine lU (j:=i) (ps:=fill j6 (j6 0) X.bytes i) (by rw[Km om];omega) ?_;rw[Kl hi32];repeat' first|refine Wz ?_|intro _
      exact o6 (i+1) ⟨rfl,rfl,rfl,rfl,trivial⟩ slr om om
     ·obtain rfl:i=X.bytes.length:=by omega
      rw[Kn];repeat' first|refine Wz ?_|intro _
      refine d9 ?_;rfl⟩
end Go.Proofs.YtocpacdnjbjjmaaGreatDoor

namespace Go.Proofs.YtocpacdnjbjjmaaGreatDoor
open Go Go.RowKit Tw Av Go.Proofs.Tryz
theorem a0E {s:Bs}(hl:s.length<=35184372088832):SpecE prog GL 116 [str s] (hA (Y0 s)):=by
 refine qE func116 rfl ntmps116 rfl (fun _ hs=>?_);repeat' first|refine Wz ?_|intro _
 refine WV (args:=[sD,str s]) (hc:=a4j) hl ?_;repeat' first|refine Wz ?_|intro _
 refine d9 ?_;rfl
instance b7d {s:Bs}{n:Nat}[h:LenLe s n]:Ans prog GL 116 [str s] (n<=35184372088832) (hA (Y0 s)):=⟨fun hn=>a0E (Nat.le_trans h.out hn)⟩
theorem SN (a b c:Bs):sM [a,b,c]=Y0 (a++b++c):=by simp[sM]
instance b5A {a b:Bs}:Ans prog GL 117 [.agg 2 [str a,str b]] True (hA (aI ⟨a,b⟩)):=⟨fun _=>by
 refine qE func117 rfl ntmps117 rfl (fun _ hs=>?_);repeat' first|refine Wz ?_|intro _
 refine d9 ?_;rw[aI,SN];rfl⟩
instance b5w {a b:Hsh}:Ans prog GL 118 [hA a,hA b] True (hA (pK a b)):=⟨fun _=>by
 refine qE func118 rfl ntmps118 rfl (fun _ hs=>?_);repeat' first|refine Wz ?_|intro _
 refine d9 ?_;rw[pK,SN];rfl⟩
instance b5i {n:Int}{h:Hsh}:Ans prog GL 49 [int n,hA h] (n<=9223372036854775807) (hA (rW n h)):=⟨fun hn=>by
 refine qE func49 rfl ntmps49 rfl (fun _ hs=>?_);repeat' first|refine Wz ?_|intro _
 refine d9 ?_;rw[rW,SN];rfl⟩
theorem Zq (n:Nat):n<=1000000->∀ {l:List Ent} {xs:List AV} {id:Option Value} [Ents xs l],Ans prog GL 50 [.sl 2 xs id] (l.length<=n) (hA (oN (l.map aI))):=by
 induction n with
 | zero=>
  intro _ l xs id hx;refine⟨fun hl=>?_⟩;have h:=hx.out;subst h;obtain rfl:l=[]:=List.eq_nil_of_length_eq_zero om;refine qE func50 rfl ntmps50 rfl (fun _ hs=>?_);repeat' first|refine Wz ?_|intro _
  refine d9 ?_;rfl
 | succ n ih=>
  intro hn l xs id hx;have ih:=@ih om;refine⟨fun hl=>?_⟩;have h:=hx.out;subst h;have hm:(l.map C8).length=l.length:=llm _;refine qE func50 rfl ntmps50 rfl (fun _ hs=>?_);repeat' first|refine Wz ?_|intro _
  refine o9 (fun h0=>?_) (fun h0=>?_)
  ·obtain rfl:l=[]:=List.eq_nil_of_length_eq_zero om;repeat' first|refine Wz ?_|intro _
   refine d9 ?_;rfl
  ·repeat' first|refine Wz ?_|intro _
   refine o9 (fun h1=>?_) (fun h1=>?_)
   ·obtain⟨x,rfl⟩:∃ x,l=[x]:=List.length_eq_one_iff.1 om;repeat' first|refine Wz ?_|intro _
    refine Z0 0 (show 0<[x].length by simp) ?_;repeat' first|refine Wz ?_|intro _
    refine d9 ?_;rfl
   ·repeat' first|refine Wz ?_|intro _
    have hk0:(((l.map C8).length:Int)+1) / 2=(((l.length+1) / 2:Nat):Int):=om
    rw[hk0];have hst:=YQ (l.map aI) (by rw[llm];omega);rw[llm,<- List.map_take,<- List.map_drop] at hst;generalize hk:(l.length+1) / 2=k at *;apply u7 [];exact rfl;exact rfl;kernel_rfl;intro _ _;refine wN 0 k ?_;exact j4 (o7 rfl rfl);repeat' first|refine Wz ?_|intro _
    apply u7 [];exact rfl;exact rfl;kernel_rfl;intro _ _;refine wN k l.length ?_;exact j4 (o7 rfl rfl);repeat' first|refine Wz ?_|intro _
    refine d9 ?_;rw[hst,List.drop_zero,List.take_length];rfl
instance b5h {l:List Ent}{xs:List AV}{id:Option Value}[Ents xs l]:Ans prog GL 50 [.sl 2 xs id] (l.length<=1000000) (hA (oN (l.map aI))):=Zq 1000000 (Nat.le_refl _)
instance b5l {d:List Ent}{xs:List AV}{id:Option Value}[hx:Ents xs d]:Ans prog GL 21 [.sl 2 xs id] (d.length<=1000000) (hA (rW d.length (oN (d.map aI)))):=⟨fun hl=>by
 have h:=hx.out;subst h;have hm:(d.map aI).length=d.length:=llm _;have hm2:(d.map C8).length=d.length:=llm _;refine qE func21 rfl ntmps21 rfl (fun _ hs=>?_);repeat' first|refine Wz ?_|intro _
 refine d9 ?_;rw[<- hm2];rfl⟩
end Go.Proofs.YtocpacdnjbjjmaaGreatDoor
