/- . -/
import Derived.Test.YtcdbijbhifhkeaaGreatDoorV24
namespace Go.Proofs.Z
open Go Go.RowKit Tw Av
structure Sta where
 h:Int
 t:Int
 r:Hsh
deriving DecidableEq
structure Hdr where
 c:Bs
 h:Int
 t:Int
 r:Hsh
deriving DecidableEq
structure Cli where
 c:Bs
 k:Bs
 p:Int
 f:Bool
 l:List Sta
deriving DecidableEq
abbrev O6 (x:Sta):AV:=.agg 34 [int x.h,int x.t,hA x.r]
abbrev R4 (x:Hdr):AV:=.agg 35 [str x.c,int x.h,int x.t,hA x.r]
abbrev vG (x:Cli):AV:=.agg 5 [str x.c,str x.k,int x.p,d9 x.f,.sl 34 (x.l.map O6) none]
class Stas (xs:List AV)(l:outParam (List Sta)):Prop where
 out:xs=l.map O6
instance : Stas [] [] := ⟨rfl⟩
instance {a b:Int}{r:Hsh}{xs:List AV}{l:List Sta}[h:Stas xs l]:Stas (.agg 34 [int a,int b,hA r]::xs) (⟨a,b,r⟩::l):=⟨by rw[h.out];rfl⟩
instance {l:List Sta}:Stas (l.map O6) l:=⟨rfl⟩
instance {xs:List AV}{l:List Sta}{i:Nat}[h:Stas xs l]:Stas (xs.take i) (l.take i):=⟨by rw[h.out,List.map_take]⟩
instance {xs:List AV}{l:List Sta}{i:Nat}[h:Stas xs l]:Stas (xs.drop i) (l.drop i):=⟨by rw[h.out,List.map_drop]⟩
instance {xs ys:List AV}{l k:List Sta}[h:Stas xs l][g:Stas ys k]:Stas (xs++ys) (l++k):=⟨by rw[h.out,g.out,List.map_append]⟩
def Z4:Sta:=⟨0,0,G8⟩
def sS:Cli:=⟨[],[],0,false,[]⟩
def X8 (x:Hdr):Sta:=⟨x.h,x.t,x.r⟩
def bT (c:Bs)(s:Sta):Hdr:=⟨c,s.h,s.t,s.r⟩
def bE (x:Hdr):Bool:=decide (1<=x.c.length/\x.c.length<=32/\1<=x.h/\x.h<=1099511627776/\0<=x.t/\x.t<=1099511627776)
def R3 (x:Hdr):Bs:=r9 99 x.c++y9 104 x.h++y9 116 x.t++r9 114 x.r.l
def xW (k:Bs):Bs:=vE (zeros 64) (if 64<k.length then (nX k).l else k)
def eP (c:UInt8)(l:Bs):Bs:=l.map (· ^^^ c)
def WT (k s:Bs):Hsh:=nX (eP 92 (xW k)++(nX (eP 54 (xW k)++s)).l)
def O7 (k:Bs)(x:Hdr):Hsh:=WT k (R3 x)
def gJ (a b:Sta):Bool:=decide (a.h<b.h/\a.t<=b.t)
def uU (c:Bs)(l:List Sta)(i:Nat):Bool:=bE (bT c (l.getD i Z4))&&(decide (i=0) || gJ (l.getD (i-1) Z4) (l.getD i Z4))
def bM (x:Cli):Bool:=decide (x.k.length<=64/\1<=x.p/\x.p<=1099511627776/\1<=x.l.length/\x.l.length<=32)&&(List.range x.l.length).all (uU x.c x.l)
def JV (k:Bs)(p:Int)(x:Hdr):Cli:=⟨x.c,k,p,false,[X8 x]⟩
def BD (k:Bs)(p:Int)(x:Hdr):Int:=if bM (JV k p x)=true then 0 else 1
def DN (k:Bs)(p:Int)(x:Hdr):Cli:=if bM (JV k p x)=true then JV k p x else sS
def dW (l:List Sta):Sta:=l.getLastD Z4
def sM (x:Cli)(now:Int):Bool:=!x.f&&decide (now<(dW x.l).t+x.p)
def P5 (l:List Sta)(h:Int):Nat:=l.findIdx λs=>decide (h<=s.h)
def kZ (l:List Sta)(h:Int):Bool:=decide (P5 l h<l.length/\(l.getD (P5 l h) Z4).h=h)
def BK (l:List Sta)(h:Int):Option Sta:=if kZ l h=true then some (l.getD (P5 l h) Z4) else none
def wY (l:List Sta)(s:Sta)(i:Nat):Bool:=(decide (0<i) && !gJ (l.getD (i-1) Z4) s) || (decide (i<l.length) && !gJ s (l.getD i Z4))
def Bg (x:Cli):Cli:={ x with f:=true }
def EC (l:List Sta)(s:Sta):List Sta:=(l.take (P5 l s.h)++s::l.drop (P5 l s.h)).drop (l.length+1-32)
def nH (x:Cli)(s:Sta):Cli:=
 if kZ x.l s.h=true/\x.l.getD (P5 x.l s.h) Z4=s then x
 else if kZ x.l s.h=true\/wY x.l s (P5 x.l s.h)=true then Bg x
 else { x with l:=EC x.l s }
def iU (x:Cli)(h:Hdr)(mac:Hsh)(now:Int):Int:=
 if sM x now=false then 19 else if bE h=false\/h.c≠x.c then 1 else if O7 x.k h≠mac then 18 else 0
def pM (x:Cli)(h:Hdr)(mac:Hsh)(now:Int):Cli:=if iU x h mac now=0 then nH x (X8 h) else sS
def a7x (s x:Sta):Bool:=decide ((x.h<s.h/\s.t<x.t)\/(s.h<x.h/\x.t<s.t))
def Rise (l:List Sta):Prop:=l.Pairwise λa b=>a.h<b.h/\a.t<=b.t
theorem a0c (l:List Sta)(h:Int):P5 l h<=l.length:=List.findIdx_le_length
theorem Rise.append {a b:List Sta}:Rise (a++b)↔Rise a/\Rise b/\∀ x∈a,∀ y∈b,x.h<y.h/\x.t<=y.t:=List.pairwise_append
attribute [irreducible] bE gJ kZ wY bM sM a7x

def oP (s:Bs):Bool:=s.all λc=>decide (c≠47)
def I4 (s:Bs):Bool:=oP s&&decide (1<=s.length/\s.length<=32)
def Y5:Bs->List Bs
 | []=>[[]]
 | c::s=>if c=47 then []::Y5 s else (c::(Y5 s).headD [])::(Y5 s).tail
def gL (s:Bs):Bool:=decide (s.length<=200)&&((Y5 s).all I4&&decide ((Y5 s).length<=5))
def BI (s:Bs):Nat:=if gL s=true then s.count 47 else 0
def YH (c d:Bs):Bool:=decide (d.take (c.length+1)=c++[47])
def xP (c d:Bs):Bool:=YH c d&&gL (d.drop (c.length+1))
def RG (c d:Bs):Bs:=if xP c d=true then d.drop (c.length+1) else []
def aJ (s:Bs):Bool:=decide (1<=s.length/\s.length<=64)
def iO (s:Bs):Bool:=decide (1<=s.length/\s.length<=200)
def F6 (a d:Bs):Bs:=[66]++r9 97 a++r9 100 d
def R9 (d:Bs):Bs:=[83]++r9 100 d
def F9 (d:List Ent)(k:Bs):Wd:=if (P7 d k).length=32 then H9 (mH (P7 d k)) else wZ
def iY (k:Bs)(n:Wd)(d:List Ent):List Ent × Int:=if lK ((F9 d k).n+n.n)=true then bJ d k (bF ((F9 d k).n+n.n)) else ([],17)
def fZ (k:Bs)(n:Wd)(d:List Ent):List Ent × Int:=if (F9 d k).n<n.n then ([],16) else if (F9 d k).n=n.n then (iM d k,0) else bJ d k (bF ((F9 d k).n-n.n))
def aF (a b:List Ent->List Ent × Int)(d:List Ent):List Ent × Int:=if (a d).2=0 then b (a d).1 else a d
def aL (d:List Ent)(a c:Bs)(n:Wd):List Ent × Int:=if aJ a=false\/iO c=false\/n.n=0 then ([],1) else if lK ((F9 d (F6 a c)).n+n.n)=false then ([],17) else aF (iY (R9 c) n) (iY (F6 a c) n) d
def nR (d:List Ent)(a c:Bs)(n:Wd):List Ent × Int:=if aJ a=false\/iO c=false\/n.n=0 then ([],1) else aF (fZ (R9 c) n) (fZ (F6 a c) n) d
def aC (d:List Ent)(a b c:Bs)(n:Wd):List Ent × Int:=if aJ a=false\/aJ b=false\/iO c=false\/n.n=0 then ([],1)
 else if a=b/\(aF (fZ (F6 a c) n) (iY (F6 b c) n) d).2≠16 then (d,0) else aF (fZ (F6 a c) n) (iY (F6 b c) n) d
def E5 (k i:Bs):Bs:=k++r9 105 i
def G9 (k i:Bs)(n:Int):Bs:=E5 k i++y9 113 n
def xV (s:Bs):Int:=X6 (l9 110 8 s false) (O1 110 1099511627776 s false)
def FZ (s:Bs):Int:=if xV s=0 then N7 110 1099511627776 s false else 0
structure EndX where
 s:Int
 o:Bs
 q:Bs
 p:Bs
deriving DecidableEq
abbrev kT (x:EndX):AV:=.agg 4 [int x.s,str x.o,str x.q,str x.p]
def zW:EndX:=⟨0,[],[],[]⟩
def kY (x:EndX):Bool:=decide (1<=x.s/\x.s<=4)&&(I4 x.o&&(I4 x.q&&if x.s=1 then decide (x.p=[]) else I4 x.p))
def zH (x:EndX)(s:Int):Bool:=decide (x.s=s)&&kY x
def wG (o q:Bs):EndX × Int:=if I4 o=true/\I4 q=true then (⟨1,o,q,[]⟩,0) else (zW,1)
def pR (o p:Bs)(t:EndX):EndX × Int:=if I4 o=false\/I4 p=false then (zW,1) else if zH t 1=false\/t.q≠o then (zW,13) else (⟨2,o,t.o,p⟩,0)
def OC (x t:EndX)(i:Bs):Bool:=decide (t.o=x.q/\t.q=x.o/\t.p=i)
def yX (x:EndX)(a:Int)(i p:Bs)(t:EndX)(b:Int):EndX × Int:=if zH x a=true/\zH t b=true/\OC x t i=true then (⟨3,x.o,x.q,p⟩,0) else (zW,13)
def sN (x:EndX)(i p:Bs)(t:EndX):EndX × Int:=if I4 i=false\/I4 p=false then (zW,1) else yX x 1 i p t 2
def wR (x:EndX)(i:Bs)(t:EndX):EndX × Int:=yX x 2 i x.p t 3
def E9 (x:EndX):Bs:=y9 115 x.s++r9 111 x.o++r9 113 x.q++r9 112 x.p
def uL (s:Bs):Bs:=l9 115 8 s false
def AQ (s:Bs):Bool:=O1 115 4 s false
def uK (s:Bs):Bs:=l9 111 32 (uL s) (AQ s)
def AP (s:Bs):Bool:=F8 111 32 (uL s) (AQ s)
def iG (s:Bs):Bs:=l9 113 32 (uK s) (AP s)
def lT (s:Bs):Bool:=F8 113 32 (uK s) (AP s)
def xS (s:Bs):EndX:=⟨N7 115 4 s false,I7 111 32 (uL s) (AQ s),I7 113 32 (uK s) (AP s),I7 112 32 (iG s) (lT s)⟩
def xR (s:Bs):Int:=X6 (l9 112 32 (iG s) (lT s)) (F8 112 32 (iG s) (lT s))
def FK (s:Bs):Bool:=decide (xR s=0)&&kY (xS s)
def lS (s:Bs):EndX:=if FK s=true then xS s else zW
def oH (s:Bs):Int:=if FK s=true then 0 else 10
structure Pkt where
 q:Int
 s:Bs
 k:Bs
 d:Bs
 a:Wd
 f:Bs
 g:Bs
 h:Int
 t:Int
deriving DecidableEq
abbrev eZ (x:Pkt):AV:=.agg 12 [int x.q,str x.s,str x.k,.agg 7 [str x.d,G6 x.a,str x.f,str x.g],int x.h,int x.t]
def a0Z:Pkt:=⟨0,[],[],[],wZ,[],[],0,0⟩
def fT (s:Bs):Bool:=oP s&&aJ s
def NU (x:Pkt):Bool:=decide (1<=x.q/\x.q<=1099511627776/\0<=x.h/\x.h<=1099511627776/\0<=x.t/\x.t<=1099511627776/\¬ (x.h=0/\x.t=0))
def FU (x:Pkt):Bool:=I4 x.s&&(I4 x.k&&gL x.d)
def KU (x:Pkt):Bool:=decide (x.a.n≠0)&&(fT x.f&&fT x.g)
def aN (x:Pkt):Bool:=NU x&&(FU x&&KU x)
def SH (x:Pkt):Bs:=y9 113 x.q++y9 104 x.h++y9 116 x.t++r9 115 x.s++r9 107 x.k++r9 100 x.d++r9 97 (bF x.a.n)++r9 102 x.f++r9 103 x.g
def M9 (x:Pkt):Bs:=(nX ([80]++SH x)).l
def aV (x:Pkt)(h t:Int):Bool:=decide ((x.h≠0/\x.h<=h)\/(x.t≠0/\x.t<=t))
def UE (e:Int):Bs:=[45,UInt8.ofNat e.toNat]
def IM (s:Bs):Bool:=match s with
 | [43]=>true
 | [45,c]=>decide (c≠0)
 | _=>false
def ET (s:Bs):Int:=match s with
 | [45,c]=>c.toNat
 | _=>0
def Z9 (s:Bs):Bs:=(nX ([65]++s)).l
def wH (x:Pkt):Bool:=xP x.s x.d
def xB (x:Pkt):Bs:=if wH x=true then x.d.drop (x.s.length+1) else x.k++[47]++x.d
def gK (s:Bs):Bs:=[101,115,99,114,111,119,47]++s
def Z6 (d:List Ent)(x:Pkt):List Ent × Int:=if aN x=false then ([],1) else if wH x=true then nR d x.f x.d x.a else aC d x.f (gK x.s) x.d x.a
def Y7 (d:List Ent)(x:Pkt):List Ent × Int:=if gL (xB x)=false\/aN x=false then ([],1) else if wH x=true then aC d (gK x.k) x.g (xB x) x.a else aL d x.g (xB x) x.a
def nT (d:List Ent)(x:Pkt):List Ent × Int:=if aN x=false then ([],1) else if wH x=true then aL d x.f x.d x.a else aC d (gK x.s) x.f x.d x.a

section
variable {a k:Bs}{d:List Ent}{x:Pkt}
theorem a1T {c:Int}{b r t:Bs}(h0:0<=c)(h1:c<256)(ha:a.length<=1000)(hb:b.length<=1000)(h:r9 c a++r=r9 c b++t):a=b/\r=t:=by
 have e1:=Cj (c:=c) (most:=1000) (s:=a) (r:=r) h0 h1 om om;have e2:=Cj (c:=c) (most:=1000) (s:=b) (r:=t) h0 h1 om om;rw[h,e2] at e1;injection e1 with e1
 injection e1 with e1 e3
 exact⟨e1.symm,e3.symm⟩
theorem Ed {c t:Bs}:F6 a c≠R9 t:=λe=>by
 unfold F6 R9 at e;rw[laa] at e;injection e with e
 cases e
theorem rP {v q:Bs}(h:Srt d)(hq:q≠k):F9 (O8 d k v) q=F9 d q:=by
 unfold F9;rw[WA h,if_neg hq]
theorem a7K {q:Bs}(h:Srt d)(hq:q≠k):F9 (iM d k) q=F9 d q:=by
 unfold F9;rw[Gi h,if_neg hq]
theorem Rz {n:Nat}(h:Srt d)(hn:n<115792089237316195423570985008687907853269984665640564039457584007913129639936):(F9 (O8 d k (bF n)) k).n=n:=by
 have e:=Ea (H9 n);rw[mO hn] at e;unfold F9;rw[WA h,if_pos rfl,if_pos (yG n),e,mO hn]
theorem a7J (h:Srt d):F9 (iM d k) k=wZ:=by
 unfold F9;rw[Gi h,if_pos rfl];rfl
theorem FP {v:Bs}(h:DOk d):DOk (bJ d k v).1:=by
 unfold bJ;split
 ·rename_i h1;exact h.put h1
 exact .nil
theorem OA {n:Wd}(h:DOk d):DOk (iY k n d).1:=by
 unfold iY;split
 ·exact FP h
 exact .nil
theorem FW {n:Wd}(h:DOk d):DOk (fZ k n d).1:=by
 unfold fZ;split
 ·exact .nil
 split
 ·exact h.drp _
 exact FP h
theorem MN {a b:List Ent->List Ent × Int}(h:DOk d)(ha:∀ d,DOk d->DOk (a d).1)(hb:∀ d,DOk d->DOk (b d).1):DOk (aF a b d).1:=by
 unfold aF;split
 ·exact hb _ (ha _ h)
 exact ha _ h
theorem OB {c:Bs}{n:Wd}(h:DOk d):DOk (aL d a c n).1:=by
 unfold aL;split
 ·exact .nil
 split
 ·exact .nil
 exact MN h (λ_ h=>OA h) (λ_ h=>OA h)
theorem b1d {c:Bs}{n:Wd}(h:DOk d):DOk (nR d a c n).1:=by
 unfold nR;split
 ·exact .nil
 exact MN h (λ_ h=>FW h) (λ_ h=>FW h)
theorem NZ {b c:Bs}{n:Wd}(h:DOk d):DOk (aC d a b c n).1:=by
 unfold aC;split
 ·exact .nil
 split
 ·exact h
 exact MN h (λ_ h=>FW h) (λ_ h=>OA h)
theorem Ir (h:DOk d):DOk (Z6 d x).1:=by
 unfold Z6;split
 ·exact .nil
 split
 ·exact b1d h
 exact NZ h
theorem Ll (h:DOk d):DOk (Y7 d x).1:=by
 unfold Y7;split
 ·exact .nil
 split
 ·exact NZ h
 exact OB h
theorem Zx (h:DOk d):DOk (nT d x).1:=by
 unfold nT;split
 ·exact .nil
 split
 ·exact OB h
 exact NZ h
end

section
class U8s (xs:List AV)(l:outParam Bs):Prop where
 out:xs=l.map I5
instance {l:Bs}:U8s (l.map I5) l:=⟨rfl⟩
instance {xs:List AV}{l:Bs}{i:Nat}[h:U8s xs l]:U8s (xs.take i) (l.take i):=⟨by rw[h.out,List.map_take]⟩
instance {xs:List AV}{l:Bs}{i:Nat}[h:U8s xs l]:U8s (xs.drop i) (l.drop i):=⟨by rw[h.out,List.map_drop]⟩
attribute [local irreducible] Av.Obl
end

end Go.Proofs.Z

namespace Go.Proofs.Z
open Go Go.RowKit Tw Av Go.Proofs.Tryz
def rv {α:Type}(z:α)(l:List α)(i:Nat):List α:=(List.range l.length).map λq=>if q<i\/l.length-i<=q then l.getD (l.length-1-q) z else l.getD q z
theorem JB {α:Type}(z:α)(l:List α)(i:Nat):(rv z l i).length=l.length:=by simp[rv]
theorem JC {α:Type}(z:α)(l:List α)(i q:Nat)(h:q<l.length):(rv z l i)[q]?=some (if q<i\/l.length-i<=q then l.getD (l.length-1-q) z else l.getD q z):=by simp[rv,h]
theorem a2Z {α:Type}(z:α)(l:List α):rv z l 0=l:=by
 apply List.ext_getElem?;intro q;rcases Nat.lt_or_ge q l.length with h|h
 ·rw[JC z l 0 q h,if_neg om];simp[List.getD,h]
 rw[List.getElem?_eq_none (by rw[JB];exact h),List.getElem?_eq_none h]
theorem a3b {α:Type}(z:α)(l:List α)(i:Nat)(h:l.length<=2*i+1)(hi:2*i<=l.length):rv z l i=l.reverse:=by
 apply List.ext_getElem?;intro q;rcases Nat.lt_or_ge q l.length with hq|hq
 ·rw[JC z l i q hq,List.getElem?_reverse hq];split
  ·have:l.length-1-q<l.length:=by omega
   simp[List.getD,this]
  have:l.length-1-q=q:=by omega
  rw[this];simp[List.getD,hq]
 rw[List.getElem?_eq_none (by rw[JB];exact hq),List.getElem?_eq_none (by simpa using hq)]
theorem a3a {α:Type}(z:α)(l:List α)(i:Nat)(h:2*i+1<l.length):((rv z l i).set i (l.getD (l.length-1-i) z)).set (l.length-1-i) (l.getD i z)=rv z l (i+1):=by
 apply List.ext_getElem?;intro q;rcases Nat.lt_or_ge q l.length with hq|hq
 ·rw[JC z l (i+1) q hq,List.getElem?_set,List.getElem?_set];simp only[List.length_set,JB];by_cases h1:l.length-1-i=q
  ·rw[if_pos h1,if_pos om,if_pos om];congr 2
   omega
  rw[if_neg h1];by_cases h2:i=q
  ·rw[if_pos h2,if_pos om,if_pos om];congr 2
   omega
  rw[if_neg h2,JC z l i q hq];by_cases h3:q<i\/l.length-i<=q
  ·rw[if_pos h3,if_pos om]
  rw[if_neg h3,if_neg om]
 rw[List.getElem?_eq_none (by simp[JB];exact hq),List.getElem?_eq_none (by rw[JB];exact hq)]
def nK:List WayStep->List Hsh->List Hsh
 | [],_=>[]
 | t::ts,l=>if t.1=true then jL (l.drop t.2.1)::nK ts (l.take t.2.1) else jL (l.take t.2.1)::nK ts (l.drop t.2.1)
def AY (l:List Hsh)(i:Int):List Hsh:=(nK (aY l.length i) l).reverse
def pO:List WayStep->Hsh->List Hsh->Hsh
 | [],h,_=>h
 | t::ts,h,p=>if t.1=true then yZ (pO ts h p.dropLast) (p.getLastD G8) else yZ (p.getLastD G8) (pO ts h p.dropLast)
def zM (n i:Int)(h:Hsh)(p:List Hsh):Option Hsh:=if i<0\/n<=i\/2000<n\/(aY n i).length≠p.length then none else some (CF n (pO (aY n i) h p))
theorem Nu:∀ (ts:List WayStep) (l:List Hsh),(nK ts l).length=ts.length
 | [],_=>rfl
 | t::ts,l=>by
  unfold nK;split <;> simp[Nu ts]
theorem ML:∀ (f n i:Nat),n<=f->(turns n i).length<=n
 | 0,n,i,h=>by
  obtain rfl:n=0:=by omega
  simp[turns,zZ]
 | f+1,n,i,h=>by
  by_cases hn:1<n
  ·rw[QD n i hn,List.length_cons];split
   ·have:=ML f ((n+1) / 2) i om;omega
   have:=ML f (n-(n+1) / 2) (i-(n+1) / 2) om;omega
  obtain rfl|rfl:n=0\/n=1:=by omega
  ·simp[turns,zZ]
  simp[QE]
theorem YN (l:List Hsh)(i:Int):(AY l i).length=(aY l.length i).length:=by simp[AY,Nu]
theorem Gd (n:Nat)(i:Int):(aY n i).length<=n:=by
 unfold aY;split
 ·simp
 exact ML n _ _ sm
theorem a1p {n i:Nat}(h:i<n)(hn:n<=2000):aY (n:Int) (i:Int)=turns n i:=by
 unfold aY;rw[if_neg om];simp
theorem a7O {α:Type}(l:List α)(x z:α):(l++[x]).getLastD z=x:=by simp[List.getLastD_eq_getLast?]
theorem WC (t:WayStep)(ts:List WayStep)(h x:Hsh)(p:List Hsh):pO (t::ts) h (p++[x])=if t.1=true then yZ (pO ts h p) x else yZ x (pO ts h p):=by
 rw[pO,List.dropLast_concat,a7O]
theorem a1o {n i:Nat}(_h:i<n)(hn:1<n):turns n i=(decide (i<(n+1) / 2),(n+1) / 2,n-(n+1) / 2)::turns (if i<(n+1) / 2 then (n+1) / 2 else n-(n+1) / 2) (if i<(n+1) / 2 then i else i-(n+1) / 2):=by
 rw[QD n i hn];split <;> rfl
theorem a1C:∀ (n:Nat) (l:List Hsh) (i:Nat) (x:Hsh),l.length=n->l[i]?=some x->pO (turns n i) x (nK (turns n i) l).reverse=jL l:=by
 intro n
 induction n using Nat.strongRecOn with
 | _ n ih=>
  intro l i x hl hx;have hi:i<n:=by rw[<- hl];exact(List.getElem?_eq_some_iff.1 hx).1
  by_cases h1:1<n
  ·have hst:=Gz l om;rw[hl] at hst;rw[QD n i h1,hst];unfold nK;generalize hk:(n+1) / 2=k at *;by_cases hik:i<k
   ·have ih:=ih k om (l.take k) i x (by simp;omega) (by rw[List.getElem?_take_of_lt hik];exact hx);simp only[hik,decide_true,if_true,List.reverse_cons];rw[WC,if_pos rfl,ih]
   have ih:=ih (n-k) om (l.drop k) (i-k) x (by simp;omega) (by rw[List.getElem?_drop,show k+(i-k)=i by omega];exact hx);simp only[hik,decide_false,if_false,List.reverse_cons,Bool.false_eq_true];rw[WC,if_neg sm,ih]
  have h2:l.length=1:=om
  obtain⟨y,rfl⟩:=List.length_eq_one_iff.1 h2;obtain rfl:n=1:=by simpa using hl.symm
  obtain rfl:i=0:=by omega
  obtain rfl:y=x:=by simpa using hx
  simp[QE,pO,jL,AA]
theorem a3H {g c n:Nat}{l:List Hsh}(hn:n=l.length)(h1:n<=1000000):Av.Spec prog GL 249 [.lit (.slice (some ⟨g,0,none⟩) n c)] [.buf g 91 32 (l.map hA) c] λv m'=>v=.tup []/\m'=[.buf g 91 32 (l.reverse.map hA) c]:=by
 subst hn;refine zc func249 ntmps249 λ_ hs=>?_;repeat' first|refine Wz ?_|intro
 have h0:l=rv G8 l 0:=(a2Z G8 l).symm;refine H7 (α:=Nat) (λi=>[(0,.lit (.slice (some ⟨g,0,none⟩) l.length c)),(2,int i),(3,int ((l.length:Int)-1-i))]) (λi=>[.buf g 91 32 ((rv G8 l i).map hA) c]) (λi=>2*i<=l.length) (λi=>l.length-2*i) 0 ⟨rfl,rfl,by simp;rfl,trivial⟩ (by rw[<- h0];exact List.Sublist.refl _) (Nat.zero_le _) ?_;intro i hi;repeat' first|refine Wz ?_|intro
 refine G7 (λhlt=>?_) (λhlt=>?_)
 ·have hlr:=JB G8 l i;have hst:=a3a G8 l i om;have hga:=JC G8 l i i om;have hgb:=JC G8 l i (l.length-1-i) om;rw[if_neg om] at hga hgb;repeat' first|refine Wz ?_|intro
  apply zd [];exact zg;intro _ _;refine LP (l.length-1-i) ?_;exact j5 (A7 rfl rfl);apply zd [0];exact zg;intro _ _;refine a0w (j:=l.length-1-i) (off:=0) (xs:=(rv G8 l i).map hA) (y:=hA (l.getD (l.length-1-i) G8)) (u:=hA (l.getD (l.length-1-i) G8)) (by rw[List.getElem?_map,hgb];rfl) ?_;exact j5 (A7 rfl rfl);repeat' first|refine Wz ?_|intro
  apply zd [];exact zg;intro _ _;refine LP i ?_;exact j5 (A7 rfl rfl);apply zd [0];exact zg;intro _ _;refine a0w (j:=i) (off:=0) (xs:=(rv G8 l i).map hA) (y:=hA (l.getD i G8)) (u:=hA (l.getD i G8)) (by rw[List.getElem?_map,hga];rfl) ?_;exact j5 (A7 rfl rfl);repeat' first|refine Wz ?_|intro
  apply zd [];exact zg;intro _ _;refine LP i ?_;exact j5 (A7 rfl rfl);apply iX [0];exact rfl;exact rfl;kernel_rfl
  ·intro _ _;refine En (j:=i) (off:=0) (xs:=(rv G8 l i).map hA) (y:=hA (l.getD i G8)) (y':=hA (l.getD (l.length-1-i) G8)) (by rw[List.getElem?_map,hga];rfl) ?_;exact j5 (jJ rfl)
  ·exact rfl
  ·exact rfl
  apply zd [];exact zg;intro _ _;refine LP (l.length-1-i) ?_;exact j5 (A7 rfl rfl);apply iX [0];exact rfl;exact rfl;kernel_rfl
  ·intro _ _;refine En (j:=l.length-1-i) (off:=0) (xs:=((rv G8 l i).map hA).set i (hA (l.getD (l.length-1-i) G8))) (y:=hA (l.getD (l.length-1-i) G8)) (y':=hA (l.getD i G8)) (by rw[List.getElem?_set_ne om,List.getElem?_map,hgb];rfl) ?_;exact j5 (jJ rfl)
  ·exact rfl
  ·exact rfl
  repeat' first|refine Wz ?_|intro
  have e:(((rv G8 l i).map hA).set i (hA (l.getD (l.length-1-i) G8))).set (l.length-1-i) (hA (l.getD i G8))=(rv G8 l (i+1)).map hA:=by rw[<- hst,List.map_set,List.map_set]
  rw[show (l.length:Int)-1-(i:Int)-1=(l.length:Int)-1-((i+1:Nat):Int) by omega];refine y7 (i+1) za ?_ om om;rw[<- e];exact List.Sublist.refl _
 repeat' first|refine Wz ?_|intro
 rw[a3b G8 l i om hi];exact iV _ ⟨rfl,rfl⟩ slr
theorem a3I:SpecE prog GL 249 [K5] (.tup []):=by
 refine zc func249 ntmps249 λ_ hs=>?_;repeat' first|refine Wz ?_|intro
 refine H7 (α:=Unit) (λ_=>[(2,int 0),(3,int (-1))]) (λ_=>[]) (λ_=>True) (λ_=>0) () za slr trivial ?_;intro _ _;repeat' first|refine Wz ?_|intro
 exact iV [] ⟨rfl,rfl⟩ slr
instance c0G {d:List Ent}{i:Int}{xs:List AV}{id:Option Value}[hx:Ents xs d]:Ans prog GL 215 [.agg 1 [.sl 2 xs id],int i] (d.length<=1000000) (.sl 32 ((AY (d.map dK) i).map hA) none):=⟨λhl=>by
 have h:=hx.out;subst h;have hm:(d.map dK).length=d.length:=llm _;have hmA:((d.map dK).map hA).length=d.length:=by simp
 refine zc func215 ntmps215 λ_ hs=>?_;repeat' first|refine Wz ?_|intro
 generalize hL:d.map dK=L at *;rw[hmA];have hwl:(aY (d.length:Int) i).length<=2000:=by
  unfold aY;split
  ·simp
  exact Nat.le_trans (ML _ _ _ (Nat.le_refl _)) om
 have hin:(∃ i',i'<L.length/\aY (d.length:Int) i=turns L.length i')\/aY (d.length:Int) i=[]:=by
  unfold aY;by_cases hc:i<0\/(d.length:Int)<=i\/2000<(d.length:Int)
  ·exact .inr (by rw[if_pos hc])
  refine .inl ⟨i.toNat,om,by rw[if_neg hc,hm];simp⟩
 have hpH:AY L i=(nK (aY (d.length:Int) i) L).reverse:=by rw[AY,hm]
 rw[hpH];generalize aY (d.length:Int) i=ts at *;have hmt:(ts.map xH).length=ts.length:=llm _;rename_i g2;refine H7 (α:=Nat × List Hsh × List Hsh × Option (Nat × Nat)) (λq=>[(2,ptr g2),(5,match q.2.2.2 with|none=>K5|some (g,c)=>.lit (.slice (some ⟨g,0,none⟩) q.1 c)),(6,.sl 32 (q.2.1.map hA) none),(14,.sl 3 (ts.map xH) none),(15,int (ts.map xH).length),(16,int q.1)])
  (λq=>match q.2.2.2 with|none=>[]|some (g,c)=>[.buf g 91 32 (q.2.2.1.map hA) c])
  (λq=>q.1<=ts.length/\q.2.2.1.length=q.1/\nK ts L=q.2.2.1++nK (ts.drop q.1) q.2.1/\q.2.1.length<=L.length/\((∃ i',i'<q.2.1.length/\ts.drop q.1=turns q.2.1.length i')\/ts.drop q.1=[])/\(q.2.2.2=none->q.2.2.1=[])/\∀ g c,q.2.2.2=some (g,c)->q.2.2.1.length<=c) (λq=>ts.length-q.1) (0,L,[],none) za zb ⟨Nat.zero_le _,rfl,rfl,Nat.le_refl _,hin,λ_=>rfl,λ_ _ h=>by cases h⟩ ?_
 rintro⟨j,l,done,own⟩ ⟨g1,g2',g3,g4,g5,g6,g7⟩;dsimp only at g1 g2' g3 g4 g5 g6 g7 ⊢;repeat' first|refine Wz ?_|intro
 refine G7 (λhlt=>?_) (λhlt=>?_)
 ·have hlt':j<ts.length:=om
  rw[List.drop_eq_getElem_cons hlt'] at g3 g5;obtain⟨i',hi',hts⟩:=g5.resolve_right (List.cons_ne_nil _ _);have h1:1<l.length:=by
   rcases Nat.lt_or_ge 1 l.length with h|h
   ·exact h
   have:l.length=1:=by omega
   rw[this,QE] at hts;cases hts
  rw[a1o hi' h1] at hts;injection hts with ht0 htr
  have hk1:ts[j].2.1=(l.length+1) / 2:=by rw[ht0]
  have hb1:ts[j].1=decide (i'<(l.length+1) / 2):=by rw[ht0]
  generalize hT:ts[j]=T at *;obtain⟨b,k,o⟩:=T;dsimp only at hk1 hb1;have hml:(l.map hA).length=l.length:=llm _;repeat' first|refine Wz ?_|intro
  refine sJ (l:=ts) (f:=xH) j hlt' ?_;rw[hT];repeat' first|refine Wz ?_|intro
  rename_i g8;cases b
  focus
   have hge:¬ i'<(l.length+1) / 2:=by simpa using hb1
   rw[if_neg hge,if_neg hge] at htr;have g3':nK ts L=(done++[jL (l.take k)])++nK (ts.drop (j+1)) (l.drop k):=by rw[g3,nK,if_neg sm];simp
   repeat' first|refine Wz ?_|intro
   refine vK 0 k ?_;rw[List.drop_zero];repeat' first|refine Wz ?_|intro
   rcases own with _|⟨go,co⟩
   focus
    obtain rfl:=g6 rfl;obtain rfl:0=j:=g2';refine VI (λg' c' hc=>?_);repeat' first|refine Wz ?_|intro
    refine vK k l.length ?_;rw[show ((l.map hA).take l.length).drop k=(l.drop k).map hA by rw[List.take_of_length_le sm,List.map_drop]];repeat' first|refine Wz ?_|intro
    refine y7 (0+1,l.drop k,[jL (l.take k)],some (g',c')) za ?_ ⟨by dsimp only;omega,sm,g3',by simp;omega,.inl ⟨i'-(l.length+1) / 2,by simp;omega,by rw[htr];congr 1;simp;omega⟩,(by intro h;cases h),(by intro g c h;cases h;simp at hc ⊢;omega)⟩ (by dsimp only;omega);exact A8
   focus
    have hdc:=g7 go co rfl;refine IG (xs:=done.map hA) (λg' c' hc=>?_);repeat' first|refine Wz ?_|intro
    refine vK k l.length ?_;rw[show ((l.map hA).take l.length).drop k=(l.drop k).map hA by rw[List.take_of_length_le sm,List.map_drop]];repeat' first|refine Wz ?_|intro
    refine y7 (j+1,l.drop k,done++[jL (l.take k)],some (g',c')) za ?_ ⟨by dsimp only;omega,by simp[g2'],g3',by simp;omega,.inl ⟨i'-(l.length+1) / 2,by simp;omega,by rw[htr];congr 1;simp;omega⟩,(by intro h;cases h),(by intro g c h;cases h;simp at hc ⊢;omega)⟩ (by dsimp only;omega);rw[List.map_append];exact A8
  focus
   have hle:i'<(l.length+1) / 2:=by simpa using hb1
   rw[if_pos hle,if_pos hle] at htr;have g3':nK ts L=(done++[jL (l.drop k)])++nK (ts.drop (j+1)) (l.take k):=by rw[g3,nK,if_pos rfl];simp
   have hfl:(l.map hA).take l.length=l.map hA:=List.take_of_length_le om;repeat' first|refine Wz ?_|intro
   refine vK k l.length ?_;rw[hfl];repeat' first|refine Wz ?_|intro
   rcases own with _|⟨go,co⟩
   focus
    obtain rfl:=g6 rfl;obtain rfl:0=j:=g2';refine VI (λg' c' hc=>?_);repeat' first|refine Wz ?_|intro
    refine vK 0 k ?_;rw[show ((l.map hA).take k).drop 0=(l.take k).map hA by rw[List.drop_zero,List.map_take]];repeat' first|refine Wz ?_|intro
    refine y7 (0+1,l.take k,[jL (l.drop k)],some (g',c')) za ?_ ⟨by dsimp only;omega,sm,g3',by simp;omega,.inl ⟨i',by simp;omega,by rw[htr];congr 1;simp;omega⟩,(by intro h;cases h),(by intro g c h;cases h;simp at hc ⊢;omega)⟩ (by dsimp only;omega);exact A8
   focus
    have hdc:=g7 go co rfl;refine IG (xs:=done.map hA) (λg' c' hc=>?_);repeat' first|refine Wz ?_|intro
    refine vK 0 k ?_;rw[show ((l.map hA).take k).drop 0=(l.take k).map hA by rw[List.drop_zero,List.map_take]];repeat' first|refine Wz ?_|intro
    refine y7 (j+1,l.take k,done++[jL (l.drop k)],some (g',c')) za ?_ ⟨by dsimp only;omega,by simp[g2'],g3',by simp;omega,.inl ⟨i',by simp;omega,by rw[htr];congr 1;simp;omega⟩,(by intro h;cases h),(by intro g c h;cases h;simp at hc ⊢;omega)⟩ (by dsimp only;omega);rw[List.map_append];exact A8
 obtain rfl:j=ts.length:=by omega
 rw[List.drop_length,nK,List.append_nil] at g3;rw[g3];rcases own with _|⟨go,co⟩
 focus
  obtain rfl:=g6 rfl;repeat' first|refine Wz ?_|intro
  refine J6 (K:=λv m'=>v=.tup []/\m'=[]) [] [] (by rw[hs];exact a3I) (λv m' hh=>?_) lpr;obtain⟨rfl,rfl⟩:=hh;refine eH 5 (Imp.nilN (k:=32)) ?_;exact jY
 focus
  have hdc:=g7 go co rfl;repeat' first|refine Wz ?_|intro
  refine J6 [.buf go 91 32 (done.map hA) co] [] (by rw[hs];exact a3H (n:=ts.length) (l:=done) g2'.symm om) (λv m' hh=>?_) (by rw[List.append_nil]);obtain⟨rfl,rfl⟩:=hh;rw[List.append_nil];refine yH 5 ?_;refine eH 5 Imp.sl ?_;exact jY⟩

section
variable {p:List Hsh}{h:Hsh}{i:Int}
theorem UY {n:Int}(hb:i<0\/n<=i\/2000<n\/(aY n i).length≠p.length):zM n i h p=none:=if_pos hb
theorem a7F {n:Int}(hb:¬ (i<0\/n<=i\/2000<n\/(aY n i).length≠p.length)):zM n i h p=some (CF n (pO (aY n i) h p)):=if_neg hb
instance c2i {n:Int}{xs:List AV}{id:Option Value}[hx:Hshs xs p]:Ans prog GL 380 [int n,int i,hA h,.sl 32 xs id] (n<=9223372036854775807) (.tup [hA ((zM n i h p).getD G8),d9 (zM n i h p).isSome]):=⟨λhn=>by
 have hh:=hx.out;subst hh;have hmp:(p.map hA).length=p.length:=llm _;have hmt:((aY n i).map xH).length=(aY n i).length:=llm _;refine zc func380 ntmps380 λ_ hs=>?_;repeat' first|refine Wz ?_|intro
 refine fE (λh1=>?_) (λh1=>?_)
 ·repeat' first|refine Wz ?_|intro
  refine x9 ?_;rw[UY (.inl h1)];rfl
 repeat' first|refine Wz ?_|intro
 refine fE (λh2=>?_) (λh2=>?_)
 ·repeat' first|refine Wz ?_|intro
  refine x9 ?_;rw[UY (.inr (.inl h2))];rfl
 repeat' first|refine Wz ?_|intro
 refine fE (λh3=>?_) (λh3=>?_)
 ·repeat' first|refine Wz ?_|intro
  refine x9 ?_;rw[UY (.inr (.inr (.inl h3)))];rfl
 repeat' first|refine Wz ?_|intro
 refine G7 (λh4=>?_) (λh4=>?_)
 ·repeat' first|refine Wz ?_|intro
  refine x9 ?_;rw[UY (.inr (.inr (.inr om)))];rfl
 have hgd:=a7F (h:=h) (show ¬ (i<0\/n<=i\/2000<n\/(aY n i).length≠p.length) by omega);rw[hgd];have hm:(aY n i).length=p.length:=by omega
 have hpl:p.length<=2000:=by
  rw[<- hm];unfold aY;split
  ·simp
  exact Nat.le_trans (ML _ _ _ (Nat.le_refl _)) om
 generalize aY n i=ts at *;repeat' first|refine Wz ?_|intro
 rename_i g6 g8 g11;refine H7 (α:=Nat) (λj=>[(0,int n),(6,ptr g6),(8,ptr g8),(10,.sl 3 (ts.map xH) none),(11,ptr g11),(37,.sl 32 (p.map hA) id),(38,int (p.map hA).length),(39,int j)]) (λj=>[.var g11 91 (hA (pO (ts.drop (p.length-j)) h (p.take j))),.var g8 91 (hA G8)])
  (λj=>j<=p.length) (λj=>p.length-j) 0 za ?_ (Nat.zero_le _) ?_
 ·rw[Nat.sub_zero,<- hm,List.drop_length,pO];exact A8
 intro j hj;repeat' first|refine Wz ?_|intro
 refine G7 (λhlt=>?_) (λhlt=>?_)
 ·have hjp:j<p.length:=om
  have hjt:p.length-1-j<ts.length:=om
  have hst:pO (ts.drop (p.length-(j+1))) h (p.take (j+1))=if ts[p.length-1-j].1=true then yZ (pO (ts.drop (p.length-j)) h (p.take j)) p[j] else yZ p[j] (pO (ts.drop (p.length-j)) h (p.take j)):=by
   rw[show p.length-(j+1)=p.length-1-j by omega,List.drop_eq_getElem_cons hjt,List.take_succ_eq_append_getElem hjp,WC,show p.length-1-j+1=p.length-j by omega]
  repeat' first|refine Wz ?_|intro
  refine sJ (l:=p) (f:=hA) j hjp ?_;repeat' first|refine Wz ?_|intro
  refine sJ (l:=ts) (f:=xH) (p.length-1-j) hjt ?_;repeat' first|refine Wz ?_|intro
  refine xF (λhb=>?_) (λhb=>?_)
  ·rw[if_pos hb] at hst;repeat' first|refine Wz ?_|intro
   refine y7 (j+1) za ?_ hjp om;rw[hst];exact A8
  rw[if_neg (by rw[hb];simp)] at hst;repeat' first|refine Wz ?_|intro
  refine y7 (j+1) za ?_ hjp om;rw[hst];exact A8
 obtain rfl:j=p.length:=by omega
 rw[Nat.sub_self,List.drop_zero,List.take_length];exact jY⟩
end
end Go.Proofs.Z

namespace Go.Proofs.Z
open Go Go.RowKit Tw Av




theorem a7V {l:List Hsh}{i:Nat}(h:i<l.length)(h2:l.length<=2000):zM l.length i l[i] (AY l i)=some (CF l.length (jL l)):=by
 have hw:=a1p h h2;unfold zM;rw[if_neg (by rw[YN];omega),AY,hw,a1C l.length l i l[i] rfl (List.getElem?_eq_getElem h)]
end Go.Proofs.Z

namespace Go.Proofs.Z
open Go Go.RowKit Tw Av Go.Proofs.Tryz
section
variable {xs:List AV}
structure Prf where
 a:Int
 m:Int
 p:List Hsh
deriving DecidableEq
structure Gp where
 n:Int
 l:List Ent
 r:List Ent
 a:Prf
 b:Prf
deriving DecidableEq
abbrev bK (x:Prf):AV:=.agg 3 [int x.a,int x.m,.sl 32 (x.p.map hA) none]
abbrev jS (x:Gp):AV:=.agg 9 [int x.n,.sl 2 (x.l.map J4) none,.sl 2 (x.r.map J4) none,bK x.a,bK x.b]
def P6:Prf:=⟨0,0,[]⟩
def lD:Gp:=⟨0,[],[],P6,P6⟩
def qP (d:List Ent)(i:Int):Prf:=⟨i,d.length,AY (d.map dK) i⟩
def fV (d:List Ent)(i:Nat)(is:Bool):Prf:=if is=true then qP d i else P6
def zT (d:List Ent)(i:Nat)(is:Bool):Gp:=if is=true then lD else
 ⟨d.length,if 0<i then [d.getD (i-1) ⟨[],[]⟩] else [],if i<d.length then [d.getD i ⟨[],[]⟩] else [],if 0<i then qP d ((i-1:Nat):Int) else P6,if i<d.length then qP d i else P6⟩
def uW (root:Hsh)(x:Ent)(p:Prf):Bool:=(zM p.m p.a (dK x) p.p).isSome&&decide ((zM p.m p.a (dK x) p.p).getD G8=root)
def vO (root:Hsh)(n:Int)(bes:Bs->Bool):List Ent->Prf->Bool
 | [],_=>true
 | [x],p=>bes x.key&&(decide (p.m=n)&&uW root x p)
 | _,_=>false
def Bu (root:Hsh)(g:Gp):Bool:=match g.l,g.r with
 | [],[]=>decide (g.n=0)&&decide (root=CF 0 (jL []))
 | [],_=>decide (g.b.a=0)
 | _,[]=>decide (g.a.a=g.n-1)
 | _,_=>decide (g.b.a=g.a.a+1)
def JY (root:Hsh)(k:Bs)(g:Gp):Bool:=vO root g.n (λa=>blt a k) g.l g.a&&(vO root g.n (λa=>blt k a) g.r g.b&&Bu root g)
def Sr (l:List Ent)(k:Bs):Nat:=l.findIdx λx=>!blt x.key k
def a7Z (l:List Ent)(k:Bs):Bool:=decide (Sr l k<l.length/\(l.getD (Sr l k) ⟨[],[]⟩).key=k)
attribute [irreducible] a7Z
instance c0O {d:List Ent}{i:Int}{id:Option Value}[hx:Ents xs d]:Ans prog GL 167 [.agg 1 [.sl 2 xs id],int i] (d.length<=1000000) (bK (qP d i)):=⟨λhl=>by
 have h:=hx.out;subst h;refine zc func167 ntmps167 λ_ hs=>?_;exact M7⟩
theorem a7f:Imp (.tup [.agg 3 [int 0,int 0,.lit (.slice none 0 0)],d9 false]) (.tup [bK P6,d9 false]):=(inferInstance:ImpR _ (.tup [.agg 3 [int 0,int 0,.sl 32 [] none],d9 false])).imp
instance c0K {d:List Ent}{k:Bs}{id:Option Value}[hx:Ents xs d]:Ans prog GL 105 [.agg 1 [.sl 2 xs id],str k] (d.length<=1000000) (.tup [bK (fV d (G5 d k) (K8 d k)),d9 (K8 d k)]):=⟨λhl=>by
 have h:=hx.out;subst h;refine zc func105 ntmps105 λ_ hs=>?_;repeat' first|refine Vz ?_|intro
 cases hb:K8 d k
 ·repeat' first|refine Vz ?_|intro
  refine P8 ?_;exact a7f
 exact M7⟩
instance c0L {root:Hsh}{a b:Bs}{i m:Int}{p:List Hsh}{id:Option Value}[hx:Hshs xs p]:Ans prog GL 360 [hA root,.agg 2 [str a,str b],.agg 3 [int i,int m,.sl 32 xs id]] (m<=9223372036854775807) (d9 (uW root ⟨a,b⟩ ⟨i,m,p⟩)):=⟨λhl=>by
 have h:=hx.out;subst h;refine zc func360 ntmps360 λ_ hs=>?_;repeat' first|refine Vz ?_|intro
 rw[uW];generalize zM m i (dK ⟨a,b⟩) p=o;cases o
 ·repeat' (first|refine W ?_|refine op3 ?_|refine ob5 ?_|refine DI ?_|refine JR ?_|refine p9 (λ_=>?_)|intro _)
  exact x9 rfl
 repeat' (first|refine W ?_|refine op3 ?_|refine ob5 ?_|refine DI ?_|refine JR ?_|refine p9 (λ_=>?_)|intro _)
 exact x9 rfl⟩
end

theorem b1h {a b:Bs}:(!(blt a b || decide (a=b)))=blt b a:=by
 cases h1:blt a b
 ·by_cases h2:a=b
  ·subst h2;simp[PK]
  cases h3:blt b a
  ·exact absurd (Du h1 h3) h2
  simp[h2]
 simp[Zl h1]
theorem a5V {a k:Bs}{g:Nat}{T:TypeId}:Av.Spec prog GL 368 [str a,ptr g] [.var g T (str k)] λu m=>u=d9 (blt a k)/\m=[.var g T (str k)]:=by
 refine zc func368 ntmps368 λ_ hs=>?_;repeat' first|refine Vz ?_|intro
 exact j4 [.var g T (str k)] ⟨rfl,rfl⟩ slr
theorem a5U {a k:Bs}{g:Nat}{T:TypeId}:Av.Spec prog GL 369 [str a,ptr g] [.var g T (str k)] λu m=>u=d9 (blt k a)/\m=[.var g T (str k)]:=by
 refine zc func369 ntmps369 λ_ hs=>?_;repeat' first|refine Vz ?_|intro
 refine j4 [.var g T (str k)] ⟨?_,rfl⟩ slr;rw[<- b1h (a:=a)];rfl
theorem Po {f:FuncId}[FnB prog f]{root:Hsh}{k:Bs}{G:Gp}{l:List Ent}{p:Prf}{gk g5 g3:Nat}{Tk:TypeId}{bes:Bs->Bool}(hb:∀ a,Av.Spec prog GL f [str a,ptr gk] [.var gk Tk (str k)] λu m=>u=d9 (bes a)/\m=[.var gk Tk (str k)])(hn:p.m<=9223372036854775807) :
  Av.Spec prog GL 367 [.sl 2 (l.map J4) none,bK p,F3 f [.pointer (some ⟨gk,0,none⟩)],ptr g5,ptr g3] [.var g5 98 (jS G),.var gk Tk (str k),.var g3 91 (hA root)]
   λu m=>u=d9 (vO root G.n bes l p)/\m=[.var g5 98 (jS G),.var gk Tk (str k),.var g3 91 (hA root)]:=by
 refine zc func367 ntmps367 λ_ hs=>?_;rcases l with _|⟨x,_|⟨y,l⟩⟩
 ·repeat' first|refine O ?_|intro
  exact j4 [.var g5 98 (jS G),.var gk Tk (str k),.var g3 91 (hA root)] ⟨rfl,rfl⟩ (List.sublist_cons_self _ _)
 ·repeat' first|refine O ?_|intro
  apply zd [2];exact zg;intro s' hs';refine D5 ?_;refine gX (args:=[str x.key]) (cs:=[.pointer (some ⟨gk,0,none⟩)]) [.var gk Tk (str k)] _ (by rw[hs'];exact hb x.key) (λu m1 hh=>?_) lpr;obtain⟨rfl,rfl⟩:=hh;exact j5 (A7 rfl rfl);cases hbe:bes x.key
  ·repeat' first|refine O ?_|intro
   refine j4 [.var g5 98 (jS G),.var gk Tk (str k),.var g3 91 (hA root)] ⟨?_,rfl⟩ (List.sublist_cons_self _ _);simp[L6,vO,hbe]
  by_cases hpm:p.m=G.n
  ·repeat' first|refine O ?_|intro
   rw[dT hpm];repeat' first|refine Vz ?_|intro
   refine j4 [.var g5 98 (jS G),.var gk Tk (str k),.var g3 91 (hA root)] ⟨?_,rfl⟩ (List.sublist_cons_self _ _);simp only[L6,vO,hbe,hpm,decide_true,Bool.true_and];rw[<- hpm]
  repeat' first|refine O ?_|intro
  rw[dZ hpm];repeat' first|refine Vz ?_|intro
  refine j4 [.var g5 98 (jS G),.var gk Tk (str k),.var g3 91 (hA root)] ⟨?_,rfl⟩ (List.sublist_cons_self _ _);simp[L6,vO,hbe,hpm]
 repeat' first|refine O ?_|intro
 refine j4 [.var g5 98 (jS G),.var gk Tk (str k),.var g3 91 (hA root)] ⟨?_,rfl⟩ (List.sublist_cons_self _ _);simp[L6,vO]
theorem b1D {d:List Ent}{n:Nat}:(if (n:Int)<0 then (⟨[],[]⟩:Ent) else d.getD (n:Int).toNat ⟨[],[]⟩)=d.getD n ⟨[],[]⟩:=by
 rw[if_neg om,Int.toNat_natCast]
instance d0l {d:List Ent}{k:Bs}{xs:List AV}{id:Option Value}[hx:Ents xs d]:Ans prog GL 173 [.agg 1 [.sl 2 xs id],str k] (d.length<=1000000) (.tup [jS (zT d (G5 d k) (K8 d k)),d9 (!K8 d k)]):=⟨λhl=>by
 have h:=hx.out;subst h;refine zc func173 ntmps173 λ_ hs=>?_;repeat' first|refine Vz ?_|intro
 cases hb:K8 d k
 focus
  repeat' first|refine Vz ?_|intro
  have hle:=PE d k;generalize G5 d k=n at *;have e2:∀ n:Nat,(((n+1:Nat):Int)-1)=n:=λn=>by omega
  by_cases h1:n<d.length
  all_goals
   rcases n with _|n
   all_goals
    repeat' first|refine O ?_|intro
    refine P8 ?_;simp only[L6,e2,b1D,zT,qP,jS,bK,P6,Nat.lt_irrefl,Nat.zero_lt_succ,Nat.add_sub_cancel,h1,if_true,if_false,List.map_cons,List.map_nil,Bool.not_false,Bool.false_eq_true];exact ImpR.imp
 focus
  repeat' first|refine Vz ?_|intro
  refine P8 ?_;simp only[L6,zT,jS,bK,if_true,lD,P6,List.map_nil,Bool.not_true];exact ImpR.imp⟩
end Go.Proofs.Z
