/- sides and gaps, written, walked both ways -/
import Derived.Test.YtndhpgclmgpmoaaGreatDoorA16
import Derived.Test.YtndhpgclmgpmoaaGreatDoorA20
import Derived.Test.YtndhpgclmgpmoaaGreatDoorA22
import Derived.Test.YtndhpgclmgpmoaaGreatDoorA23
import Derived.Test.YtndhpgclmgpmoaaGreatDoorA25
import Derived.Test.YtndhpgclmgpmoaaGreatDoorA26
import Derived.Test.YtndhpgclmgpmoaaGreatDoorA27
import Derived.Test.YtndhpgclmgpmoaaGreatDoorA33
import Derived.Test.YtndhpgclmgpmoaaGreatDoorA34
namespace Go.Proofs.YtndhpgclmgpmoaaGreatDoor
open Go Go.RowKit Tw Av
structure Sta where
 h:Int
 t:Int
 r:Hsh
deriving DecidableEq
structure Hdr where
 c:Bs
 h:Int
 t:Int
 r:Hsh
deriving DecidableEq
structure Cli where
 c:Bs
 k:Bs
 p:Int
 f:Bool
 l:List Sta
deriving DecidableEq
abbrev staA (x:Sta):AV:=.agg 34 [int x.h,int x.t,hA x.r]
abbrev hdrA (x:Hdr):AV:=.agg 35 [str x.c,int x.h,int x.t,hA x.r]
class Stas (xs:List AV)(l:outParam (List Sta)):Prop where
 out:xs=l.map staA
instance : Stas [] [] := ⟨rfl⟩
instance {a b:Int}{r:Hsh}{xs:List AV}{l:List Sta}[h:Stas xs l]:Stas (.agg 34 [int a,int b,hA r]::xs) (⟨a,b,r⟩::l):=⟨by rw [h.out];rfl⟩
instance {l:List Sta}:Stas (l.map staA) l:=⟨rfl⟩
instance {xs:List AV}{l:List Sta}{i:Nat}[h:Stas xs l]:Stas (xs.take i) (l.take i):=⟨by rw [h.out,List.map_take]⟩
instance {xs:List AV}{l:List Sta}{i:Nat}[h:Stas xs l]:Stas (xs.drop i) (l.drop i):=⟨by rw [h.out,List.map_drop]⟩
instance {xs ys:List AV}{l k:List Sta}[h:Stas xs l][g:Stas ys k]:Stas (xs++ys) (l++k):=⟨by rw [h.out,g.out,List.map_append]⟩
def zeroS:Sta:=⟨0,0,zeroH⟩
def zeroC:Cli:=⟨[],[],0,false,[]⟩
def stOf (x:Hdr):Sta:=⟨x.h,x.t,x.r⟩
def hdOf (c:Bs)(s:Sta):Hdr:=⟨c,s.h,s.t,s.r⟩
def chkH (x:Hdr):Bool:=decide (1<=x.c.length/\x.c.length<=32/\1<=x.h/\x.h<=1099511627776/\0<=x.t/\x.t<=1099511627776)
def hdrB (x:Hdr):Bs:=tlvT 99 x.c++tlvI 104 x.h++tlvI 116 x.t++tlvT 114 x.r.l
def keyB (k:Bs):Bs:=copyB (zeros 64) (if 64 < k.length then (shaH k).l else k)
def xorB (c:UInt8)(l:Bs):Bs:=l.map (· ^^^ c)
def sealH (k s:Bs):Hsh:=shaH (xorB 92 (keyB k)++(shaH (xorB 54 (keyB k)++s)).l)
def sealOf (k:Bs)(x:Hdr):Hsh:=sealH k (hdrB x)
def fol (a b:Sta):Bool:=decide (a.h < b.h/\a.t<=b.t)
def mayAt (c:Bs)(l:List Sta)(i:Nat):Bool:=chkH (hdOf c (l.getD i zeroS)) && (decide (i=0) || fol (l.getD (i - 1) zeroS) (l.getD i zeroS))
def mayC (x:Cli):Bool:=decide (x.k.length<=64/\1<=x.p/\x.p<=1099511627776/\1<=x.l.length/\x.l.length<=32) && (List.range x.l.length).all (mayAt x.c x.l)
def newC (k:Bs)(p:Int)(x:Hdr):Cli:=⟨x.c,k,p,false,[stOf x]⟩
def newE (k:Bs)(p:Int)(x:Hdr):Int:=if mayC (newC k p x)=true then 0 else 1
def newR (k:Bs)(p:Int)(x:Hdr):Cli:=if mayC (newC k p x)=true then newC k p x else zeroC
def latC (l:List Sta):Sta:=l.getLastD zeroS
def actC (x:Cli)(now:Int):Bool:=!x.f && decide (now < (latC x.l).t + x.p)
def atI (l:List Sta)(h:Int):Nat:=l.findIdx fun s=>decide (h<=s.h)
def atIs (l:List Sta)(h:Int):Bool:=decide (atI l h < l.length/\(l.getD (atI l h) zeroS).h=h)
def findC (l:List Sta)(h:Int):Option Sta:=if atIs l h=true then some (l.getD (atI l h) zeroS) else none
def badAt (l:List Sta)(s:Sta)(i:Nat):Bool:=(decide (0 < i) && !fol (l.getD (i - 1) zeroS) s) || (decide (i < l.length) && !fol s (l.getD i zeroS))
def frz (x:Cli):Cli:={ x with f:=true }
def insS (l:List Sta)(s:Sta):List Sta:=(l.take (atI l s.h)++s::l.drop (atI l s.h)).drop (l.length + 1 - 32)
def putC (x:Cli)(s:Sta):Cli:=
 if atIs x.l s.h=true/\x.l.getD (atI x.l s.h) zeroS=s then x
 else if atIs x.l s.h=true\/badAt x.l s (atI x.l s.h)=true then frz x
 else { x with l:=insS x.l s }
def updE (x:Cli)(h:Hdr)(mac:Hsh)(now:Int):Int:=
 if actC x now=false then 19 else if chkH h=false\/h.c≠x.c then 1 else if sealOf x.k h≠mac then 18 else 0
def updC (x:Cli)(h:Hdr)(mac:Hsh)(now:Int):Cli:=if updE x h mac now=0 then putC x (stOf h) else zeroC
def hits (s x:Sta):Bool:=decide ((x.h < s.h/\s.t < x.t)\/(s.h < x.h/\x.t < s.t))
attribute [irreducible] chkH fol atIs badAt mayC actC hits

def noSl (s:Bs):Bool:=s.all fun c=>decide (c≠47)
def partB (s:Bs):Bool:=noSl s && decide (1<=s.length/\s.length<=32)
def splS:Bs->List Bs
 | []=>[[]]
 | c::s=>if c=47 then []::splS s else (c::(splS s).headD [])::(splS s).tail
def denB (s:Bs):Bool:=decide (s.length<=200) && ((splS s).all partB && decide ((splS s).length<=5))
def hopN (s:Bs):Nat:=if denB s=true then s.count 47 else 0
def pre12 (c d:Bs):Bool:=decide (d.take (c.length + 1)=c++[47])
def retB (c d:Bs):Bool:=pre12 c d && denB (d.drop (c.length + 1))
def nameB (s:Bs):Bool:=decide (1<=s.length/\s.length<=64)
def dnmB (s:Bs):Bool:=decide (1<=s.length/\s.length<=200)
def balK (a d:Bs):Bs:=[66]++tlvT 97 a++tlvT 100 d
def totK (d:Bs):Bs:=[83]++tlvT 100 d
def getW (d:List Ent)(k:Bs):Wd:=if (valE d k).length=32 then wOf (beN (valE d k)) else wZ
def moreR (k:Bs)(n:Wd)(d:List Ent):List Ent × Int:=if wIs ((getW d k).n + n.n)=true then putR d k (beB ((getW d k).n + n.n)) else ([],17)
def lessR (k:Bs)(n:Wd)(d:List Ent):List Ent × Int:=if (getW d k).n < n.n then ([],16) else if (getW d k).n=n.n then (drpL d k,0) else putR d k (beB ((getW d k).n - n.n))
def thenR (a b:List Ent->List Ent × Int)(d:List Ent):List Ent × Int:=if (a d).2=0 then b (a d).1 else a d
def mintR (d:List Ent)(a c:Bs)(n:Wd):List Ent × Int:=if nameB a=false\/dnmB c=false\/n.n=0 then ([],1) else if wIs ((getW d (balK a c)).n + n.n)=false then ([],17) else thenR (moreR (totK c) n) (moreR (balK a c) n) d
def burnR (d:List Ent)(a c:Bs)(n:Wd):List Ent × Int:=if nameB a=false\/dnmB c=false\/n.n=0 then ([],1) else thenR (lessR (totK c) n) (lessR (balK a c) n) d
def moveR (d:List Ent)(a b c:Bs)(n:Wd):List Ent × Int:=if nameB a=false\/nameB b=false\/dnmB c=false\/n.n=0 then ([],1)
 else if a=b/\(thenR (lessR (balK a c) n) (moreR (balK b c) n) d).2≠16 then (d,0) else thenR (lessR (balK a c) n) (moreR (balK b c) n) d
def kyO (k i:Bs):Bs:=k++tlvT 105 i
def kyW (k i:Bs)(n:Int):Bs:=kyO k i++tlvI 113 n
def knE (s:Bs):Int:=reE' (rsT 110 8 s false) (riB 110 1099511627776 s false)
def knV (s:Bs):Int:=if knE s=0 then riI 110 1099511627776 s false else 0
structure EndX where
 s:Int
 o:Bs
 q:Bs
 p:Bs
deriving DecidableEq
abbrev endA (x:EndX):AV:=.agg 4 [int x.s,str x.o,str x.q,str x.p]
def zeroE:EndX:=⟨0,[],[],[]⟩
def chkE (x:EndX):Bool:=decide (1<=x.s/\x.s<=4) && (partB x.o && (partB x.q && if x.s=1 then decide (x.p=[]) else partB x.p))
def isE (x:EndX)(s:Int):Bool:=decide (x.s=s) && chkE x
def initE (o q:Bs):EndX × Int:=if partB o=true/\partB q=true then (⟨1,o,q,[]⟩,0) else (zeroE,1)
def tryE (o p:Bs)(t:EndX):EndX × Int:=if partB o=false\/partB p=false then (zeroE,1) else if isE t 1=false\/t.q≠o then (zeroE,13) else (⟨2,o,t.o,p⟩,0)
def meanE (x t:EndX)(i:Bs):Bool:=decide (t.o=x.q/\t.q=x.o/\t.p=i)
def openE (x:EndX)(a:Int)(i p:Bs)(t:EndX)(b:Int):EndX × Int:=if isE x a=true/\isE t b=true/\meanE x t i=true then (⟨3,x.o,x.q,p⟩,0) else (zeroE,13)
def ackE (x:EndX)(i p:Bs)(t:EndX):EndX × Int:=if partB i=false\/partB p=false then (zeroE,1) else openE x 1 i p t 2
def cnfE (x:EndX)(i:Bs)(t:EndX):EndX × Int:=openE x 2 i x.p t 3
def enxB (x:EndX):Bs:=tlvI 115 x.s++tlvT 111 x.o++tlvT 113 x.q++tlvT 112 x.p
def reS1 (s:Bs):Bs:=rsT 115 8 s false
def reB1 (s:Bs):Bool:=riB 115 4 s false
def reS2 (s:Bs):Bs:=rsT 111 32 (reS1 s) (reB1 s)
def reB2 (s:Bs):Bool:=rbT 111 32 (reS1 s) (reB1 s)
def reS3 (s:Bs):Bs:=rsT 113 32 (reS2 s) (reB2 s)
def reB3 (s:Bs):Bool:=rbT 113 32 (reS2 s) (reB2 s)
def reV (s:Bs):EndX:=⟨riI 115 4 s false,rtT 111 32 (reS1 s) (reB1 s),rtT 113 32 (reS2 s) (reB2 s),rtT 112 32 (reS3 s) (reB3 s)⟩
def reZ (s:Bs):Int:=reE' (rsT 112 32 (reS3 s) (reB3 s)) (rbT 112 32 (reS3 s) (reB3 s))
def reOk (s:Bs):Bool:=decide (reZ s=0) && chkE (reV s)
def redV (s:Bs):EndX:=if reOk s=true then reV s else zeroE
def redE (s:Bs):Int:=if reOk s=true then 0 else 10
structure Pkt where
 q:Int
 s:Bs
 k:Bs
 d:Bs
 a:Wd
 f:Bs
 g:Bs
 h:Int
 t:Int
deriving DecidableEq
abbrev pktA (x:Pkt):AV:=.agg 12 [int x.q,str x.s,str x.k,.agg 7 [str x.d,widA x.a,str x.f,str x.g],int x.h,int x.t]
def zeroPk:Pkt:=⟨0,[],[],[],wZ,[],[],0,0⟩
def plainB (s:Bs):Bool:=noSl s && nameB s
def numsP (x:Pkt):Bool:=decide (1<=x.q/\x.q<=1099511627776/\0<=x.h/\x.h<=1099511627776/\0<=x.t/\x.t<=1099511627776/\¬ (x.h=0/\x.t=0))
def namsP (x:Pkt):Bool:=partB x.s && (partB x.k && denB x.d)
def coinP (x:Pkt):Bool:=decide (x.a.n≠0) && (plainB x.f && plainB x.g)
def chkP (x:Pkt):Bool:=numsP x && (namsP x && coinP x)
def pktB (x:Pkt):Bs:=tlvI 113 x.q++tlvI 104 x.h++tlvI 116 x.t++tlvT 115 x.s++tlvT 107 x.k++tlvT 100 x.d++tlvT 97 (beB x.a.n)++tlvT 102 x.f++tlvT 103 x.g
def comP (x:Pkt):Bs:=(shaH ([80]++pktB x)).l
def lateP (x:Pkt)(h t:Int):Bool:=decide ((x.h≠0/\x.h<=h)\/(x.t≠0/\x.t<=t))
def failB (e:Int):Bs:=[45,UInt8.ofNat e.toNat]
def ackIs (s:Bs):Bool:=match s with
 | [43]=>true
 | [45,c]=>decide (c≠0)
 | _=>false
def ackV (s:Bs):Int:=match s with
 | [45,c]=>c.toNat
 | _=>0
def rcpB (s:Bs):Bs:=(shaH ([65]++s)).l
def homeP (x:Pkt):Bool:=retB x.s x.d
def arrP (x:Pkt):Bs:=if homeP x=true then x.d.drop (x.s.length + 1) else x.k++[47]++x.d
def escB (s:Bs):Bs:=[101,115,99,114,111,119,47]++s
def sendR (d:List Ent)(x:Pkt):List Ent × Int:=if chkP x=false then ([],1) else if homeP x=true then burnR d x.f x.d x.a else moveR d x.f (escB x.s) x.d x.a
def recvR (d:List Ent)(x:Pkt):List Ent × Int:=if denB (arrP x)=false\/chkP x=false then ([],1) else if homeP x=true then moveR d (escB x.k) x.g (arrP x) x.a else mintR d x.g (arrP x) x.a
def backR (d:List Ent)(x:Pkt):List Ent × Int:=if chkP x=false then ([],1) else if homeP x=true then mintR d x.f x.d x.a else moveR d (escB x.s) x.f x.d x.a

def setR (k:Bs)(n:Nat)(d:List Ent):List Ent × Int:=if n=0 then (drpL d k,0) else putR d k (beB n)
def mintQ (d:List Ent)(a c:Bs)(n:Wd):List Ent × Int:=if nameB a=false\/dnmB c=false\/n.n=0 then ([],1)
 else if wIs ((getW d (totK c)).n + n.n)=false\/wIs ((getW d (balK a c)).n + n.n)=false then ([],17)
 else thenR (setR (totK c) ((getW d (totK c)).n + n.n)) (setR (balK a c) ((getW d (balK a c)).n + n.n)) d
def burnQ (d:List Ent)(a c:Bs)(n:Wd):List Ent × Int:=if nameB a=false\/dnmB c=false\/n.n=0 then ([],1)
 else if (getW d (totK c)).n < n.n\/(getW d (balK a c)).n < n.n then ([],16)
 else thenR (setR (totK c) ((getW d (totK c)).n - n.n)) (setR (balK a c) ((getW d (balK a c)).n - n.n)) d
def moveQ (d:List Ent)(a b c:Bs)(n:Wd):List Ent × Int:=if nameB a=false\/nameB b=false\/dnmB c=false\/n.n=0 then ([],1)
 else if (getW d (balK a c)).n < n.n then ([],16)
 else if a=b then (d,0)
 else if wIs ((getW d (balK b c)).n + n.n)=false then ([],17)
 else thenR (setR (balK a c) ((getW d (balK a c)).n - n.n)) (setR (balK b c) ((getW d (balK b c)).n + n.n)) d
theorem tlvT_len' {c:Int}{s:Bs}(h:s.length<=16777215):(tlvT c s).length=s.length + 4:=by
 rw [tlvT_cons h]
 simp
theorem tlvT_inj {c:Int}{a b r t:Bs}(h0:0<=c)(h1:c < 256)(ha:a.length<=1000)(hb:b.length<=1000)(h:tlvT c a++r=tlvT c b++t):a=b/\r=t:=by
 have e1:=cut_tlvT (c:=c) (most:=1000) (s:=a) (r:=r) h0 h1 (by omega) (by omega)
 have e2:=cut_tlvT (c:=c) (most:=1000) (s:=b) (r:=t) h0 h1 (by omega) (by omega)
 rw [h,e2] at e1
 injection e1 with e1
 injection e1 with e1 e3
 exact⟨e1.symm,e3.symm⟩
theorem nameB_len {s:Bs}(h:nameB s=true):1<=s.length/\s.length<=64:=of_decide_eq_true h
theorem dnmB_len {s:Bs}(h:dnmB s=true):1<=s.length/\s.length<=200:=of_decide_eq_true h
theorem balK_ne {a b c:Bs}(ha:nameB a=true)(hb:nameB b=true)(h:a≠b):balK a c≠balK b c:=fun e=>by
 have:=nameB_len ha
 have:=nameB_len hb
 unfold balK at e
 rw [laa,laa] at e
 exact h (tlvT_inj (by decide) (by decide) (by omega) (by omega) (List.append_cancel_left e)).1
theorem balK_tot {a c t:Bs}:balK a c≠totK t:=fun e=>by
 unfold balK totK at e
 rw [laa] at e
 injection e with e
 cases e
theorem balK_len {a c:Bs}(ha:nameB a=true)(hc:dnmB c=true):(balK a c).length<=400:=by
 have:=nameB_len ha
 have:=dnmB_len hc
 unfold balK
 rw [lla,lla,tlvT_len' (by omega),tlvT_len' (by omega)]
 simp
 omega
theorem totK_len {c:Bs}(hc:dnmB c=true):(totK c).length<=400:=by
 have:=dnmB_len hc
 unfold totK
 rw [lla,tlvT_len' (by omega)]
 simp
 omega
theorem getW_put {d:List Ent}{k v q:Bs}(h:Srt d)(hq:q≠k):getW (putL d k v) q=getW d q:=by
 unfold getW
 rw [valE_put h,if_neg hq]
theorem getW_drp {d:List Ent}{k q:Bs}(h:Srt d)(hq:q≠k):getW (drpL d k) q=getW d q:=by
 unfold getW
 rw [valE_drp h,if_neg hq]
theorem putR_ne {d:List Ent}{k v q:Bs}(h:Srt d)(hq:q≠k)(he:(putR d k v).2=0):getW (putR d k v).1 q=getW d q:=by
 unfold putR at he ⊢
 split
 ·exact getW_put h hq
 ·rename_i h1
  rw [if_neg h1] at he
  exact absurd he h1
theorem setR_ne {d:List Ent}{k q:Bs}{n:Nat}(h:Srt d)(hq:q≠k)(he:(setR k n d).2=0):getW (setR k n d).1 q=getW d q:=by
 unfold setR at he ⊢
 split
 ·exact getW_drp h hq
 ·rename_i h1
  rw [if_neg h1] at he
  exact putR_ne h hq he
theorem getW_pos {d:List Ent}{k:Bs}(h:Srt d)(hp:0 < (getW d k).n):bsIs d k=true:=by
 rw [is_bs h]
 unfold getW valE at hp
 cases e:gO d k with
 | none=>
  rw [e] at hp
  exact absurd hp (by decide)
 | some v=>rfl
theorem less_ok {d:List Ent}{k:Bs}{n:Wd}(h:DOk d)(hk:k.length<=400)(hn:n.n≠0)(hle:n.n<=(getW d k).n):lessR k n d=setR k ((getW d k).n - n.n) d/\(lessR k n d).2=0:=by
 have hb:bsIs d k=true:=getW_pos h.s (by omega)
 have he:∀ v:Bs,v.length<=4000->putE d k v=0:=fun v hv=>putE_eq0.2 ⟨hk,hv,.inl hb⟩
 unfold lessR setR
 rw [if_neg (by omega)]
 by_cases h1:(getW d k).n=n.n
 ·rw [if_pos h1,if_pos (by omega)]
  exact⟨rfl,rfl⟩
 ·rw [if_neg h1,if_neg (by omega)]
  refine⟨rfl,?_⟩
  rw [putR_e]
  exact he _ (by rw [beB_len];omega)
theorem more_set {d:List Ent}{k:Bs}{n:Wd}(hn:n.n≠0):moreR k n d=if wIs ((getW d k).n + n.n)=true then setR k ((getW d k).n + n.n) d else ([],17):=by
 unfold moreR setR
 split
 ·rw [if_neg (by omega)]
 ·rfl
theorem moreR_16 {d:List Ent}{k:Bs}{n:Wd}:(moreR k n d).2≠16:=by
 unfold moreR
 split
 ·rw [putR_e]
  unfold putE
  split
  ·decide
  ·split
   ·decide
   ·split <;> decide
 ·decide
theorem mint_eq {d:List Ent}(h:DOk d)(a c:Bs)(n:Wd):mintR d a c n=mintQ d a c n:=by
 unfold mintR mintQ
 split
 ·rfl
 ·rename_i h1
  simp only [not_or,Bool.not_eq_false] at h1
  obtain⟨h2,h3,h4⟩:=h1
  by_cases h5:wIs ((getW d (balK a c)).n + n.n)=false
  ·rw [if_pos h5,if_pos (.inr h5)]
  ·rw [if_neg h5]
   have h5':wIs ((getW d (balK a c)).n + n.n)=true:=by simpa using h5
   unfold thenR
   by_cases h6:wIs ((getW d (totK c)).n + n.n)=false
   ·have m1:moreR (totK c) n d=([],17):=by rw [more_set h4,if_neg (by simp [h6])]
    have n0:¬ (([],17):List Ent × Int).2=0:=by decide
    rw [m1,if_neg n0,if_pos (.inl h6)]
   ·have h6':wIs ((getW d (totK c)).n + n.n)=true:=by simpa using h6
    have m1:moreR (totK c) n d=setR (totK c) ((getW d (totK c)).n + n.n) d:=by rw [more_set h4,if_pos h6']
    have hc:¬ (wIs ((getW d (totK c)).n + n.n)=false\/wIs ((getW d (balK a c)).n + n.n)=false):=by rw [h5',h6'];decide
    rw [m1,if_neg hc]
    by_cases h7:(setR (totK c) ((getW d (totK c)).n + n.n) d).2=0
    ·rw [if_pos h7,if_pos h7,more_set h4,setR_ne h.s balK_tot h7,if_pos h5']
    ·rw [if_neg h7,if_neg h7]
theorem burn_eq {d:List Ent}(h:DOk d)(a c:Bs)(n:Wd):burnR d a c n=burnQ d a c n:=by
 unfold burnR burnQ
 split
 ·rfl
 ·rename_i h1
  simp only [not_or,Bool.not_eq_false] at h1
  obtain⟨h2,h3,h4⟩:=h1
  unfold thenR
  by_cases h5:(getW d (totK c)).n < n.n
  ·have n0:¬ (([],16):List Ent × Int).2=0:=by decide
   have:lessR (totK c) n d=([],16):=by rw [lessR,if_pos h5]
   rw [this,if_neg n0,if_pos (.inl h5)]
  ·obtain⟨e1,e2⟩:=less_ok h (totK_len h3) h4 (by omega:n.n<=(getW d (totK c)).n)
   have e3:=e2
   rw [e1] at e3
   rw [if_pos e2,e1]
   have hd:DOk (setR (totK c) ((getW d (totK c)).n - n.n) d).1:=by
    unfold setR at e3 ⊢
    split
    ·exact h.drp _
    ·rename_i h8
     rw [if_neg h8] at e3
     exact putR_ok h e3
   by_cases h6:(getW d (balK a c)).n < n.n
   ·rw [if_pos (show (getW d (totK c)).n < n.n\/(getW d (balK a c)).n < n.n from .inr h6),lessR,setR_ne h.s balK_tot e3,if_pos h6]
   ·rw [if_neg (show ¬ ((getW d (totK c)).n < n.n\/(getW d (balK a c)).n < n.n) by omega),if_pos e3,(less_ok hd (balK_len h2 h3) h4 (by rw [setR_ne h.s balK_tot e3];omega)).1,setR_ne h.s balK_tot e3]
theorem move_eq {d:List Ent}(h:DOk d)(a b c:Bs)(n:Wd):moveR d a b c n=moveQ d a b c n:=by
 unfold moveR moveQ
 split
 ·rfl
 ·rename_i h1
  simp only [not_or,Bool.not_eq_false] at h1
  obtain⟨h2,h2',h3,h4⟩:=h1
  by_cases h5:(getW d (balK a c)).n < n.n
  ·have e1:thenR (lessR (balK a c) n) (moreR (balK b c) n) d=([],16):=by
    unfold thenR
    have:lessR (balK a c) n d=([],16):=by rw [lessR,if_pos h5]
    rw [this,if_neg (show ¬ (([],16):List Ent × Int).2=0 by decide)]
   rw [e1,if_neg (show ¬ (a=b/\(([],16):List Ent × Int).2≠16) from fun hh=>hh.2 rfl),if_pos h5]
  ·obtain⟨e1,e2⟩:=less_ok h (balK_len h2 h3) h4 (by omega:n.n<=(getW d (balK a c)).n)
   have e3:=e2
   rw [e1] at e3
   have e4:thenR (lessR (balK a c) n) (moreR (balK b c) n) d=moreR (balK b c) n (setR (balK a c) ((getW d (balK a c)).n - n.n) d).1:=by
    unfold thenR
    rw [if_pos e2,e1]
   rw [if_neg h5,e4]
   by_cases h6:a=b
   ·rw [if_pos ⟨h6,moreR_16⟩,if_pos h6]
   ·rw [if_neg (fun hh=>h6 hh.1),if_neg h6,more_set h4,setR_ne h.s (balK_ne h2' h2 (fun e=>h6 e.symm)) e3]
    unfold thenR
    rw [if_pos e3]
    by_cases h7:wIs ((getW d (balK b c)).n + n.n)=true
    ·rw [if_pos h7,if_neg (by simp [h7])]
    ·rw [if_neg h7,if_pos (by simpa using h7)]
theorem putR_dok {d:List Ent}{k v:Bs}(h:DOk d):DOk (putR d k v).1:=by
 unfold putR
 split
 ·rename_i h1;exact h.put h1
 ·exact .nil
theorem moreR_dok {d:List Ent}{k:Bs}{n:Wd}(h:DOk d):DOk (moreR k n d).1:=by
 unfold moreR
 split
 ·exact putR_dok h
 ·exact .nil
theorem lessR_dok {d:List Ent}{k:Bs}{n:Wd}(h:DOk d):DOk (lessR k n d).1:=by
 unfold lessR
 split
 ·exact .nil
 ·split
  ·exact h.drp _
  ·exact putR_dok h
theorem thenR_dok {d:List Ent}{a b:List Ent->List Ent × Int}(h:DOk d)(ha:∀ d,DOk d->DOk (a d).1)(hb:∀ d,DOk d->DOk (b d).1):DOk (thenR a b d).1:=by
 unfold thenR
 split
 ·exact hb _ (ha _ h)
 ·exact ha _ h
theorem mintR_dok {d:List Ent}{a c:Bs}{n:Wd}(h:DOk d):DOk (mintR d a c n).1:=by
 unfold mintR
 split
 ·exact .nil
 ·split
  ·exact .nil
  ·exact thenR_dok h (fun _ h=>moreR_dok h) (fun _ h=>moreR_dok h)
theorem burnR_dok {d:List Ent}{a c:Bs}{n:Wd}(h:DOk d):DOk (burnR d a c n).1:=by
 unfold burnR
 split
 ·exact .nil
 ·exact thenR_dok h (fun _ h=>lessR_dok h) (fun _ h=>lessR_dok h)
theorem moveR_dok {d:List Ent}{a b c:Bs}{n:Wd}(h:DOk d):DOk (moveR d a b c n).1:=by
 unfold moveR
 split
 ·exact .nil
 ·split
  ·exact h
  ·exact thenR_dok h (fun _ h=>lessR_dok h) (fun _ h=>moreR_dok h)
theorem sendR_dok {d:List Ent}{x:Pkt}(h:DOk d):DOk (sendR d x).1:=by
 unfold sendR
 split
 ·exact .nil
 ·split
  ·exact burnR_dok h
  ·exact moveR_dok h
theorem recvR_dok {d:List Ent}{x:Pkt}(h:DOk d):DOk (recvR d x).1:=by
 unfold recvR
 split
 ·exact .nil
 ·split
  ·exact moveR_dok h
  ·exact mintR_dok h
theorem backR_dok {d:List Ent}{x:Pkt}(h:DOk d):DOk (backR d x).1:=by
 unfold backR
 split
 ·exact .nil
 ·split
  ·exact mintR_dok h
  ·exact moveR_dok h

class U8s (xs:List AV)(l:outParam Bs):Prop where
 out:xs=l.map u8A
instance {l:Bs}:U8s (l.map u8A) l:=⟨rfl⟩
instance {xs:List AV}{l:Bs}{i:Nat}[h:U8s xs l]:U8s (xs.take i) (l.take i):=⟨by rw [h.out,List.map_take]⟩
instance {xs:List AV}{l:Bs}{i:Nat}[h:U8s xs l]:U8s (xs.drop i) (l.drop i):=⟨by rw [h.out,List.map_drop]⟩
attribute [local irreducible] Av.Obl
end Go.Proofs.YtndhpgclmgpmoaaGreatDoor

namespace Go.Proofs.YtndhpgclmgpmoaaGreatDoor
open Go Go.RowKit Tw Av

def upH:List WayStep->Hsh->List Hsh->Hsh
 | [],h,_=>h
 | t::ts,h,p=>if t.1=true then nodeH (upH ts h p.dropLast) (p.getLastD zeroH) else nodeH (p.getLastD zeroH) (upH ts h p.dropLast)
def foldH (n i:Int)(h:Hsh)(p:List Hsh):Option Hsh:=if i < 0\/n<=i\/2000 < n\/(wayOf n i).length≠p.length then none else some (topH n (upH (wayOf n i) h p))







structure Prf where
 a:Int
 m:Int
 p:List Hsh
deriving DecidableEq
structure Gp where
 n:Int
 l:List Ent
 r:List Ent
 a:Prf
 b:Prf
deriving DecidableEq
abbrev prfA (x:Prf):AV:=.agg 3 [int x.a,int x.m,.sl 32 (x.p.map hA) none]
abbrev gpA (x:Gp):AV:=.agg 9 [int x.n,.sl 2 (x.l.map entA) none,.sl 2 (x.r.map entA) none,prfA x.a,prfA x.b]
def zeroP:Prf:=⟨0,0,[]⟩
def zeroG:Gp:=⟨0,[],[],zeroP,zeroP⟩
def holdsB (root:Hsh)(x:Ent)(p:Prf):Bool:=(foldH p.m p.a (leafH x) p.p).isSome && decide ((foldH p.m p.a (leafH x) p.p).getD zeroH=root)
def sideB (root:Hsh)(n:Int)(bes:Bs->Bool):List Ent->Prf->Bool
 | [],_=>true
 | [x],p=>bes x.key && (decide (p.m=n) && holdsB root x p)
 | _,_=>false
def endB (root:Hsh)(g:Gp):Bool:=match g.l,g.r with
 | [],[]=>decide (g.n=0) && decide (root=topH 0 (treeH []))
 | [],_=>decide (g.b.a=0)
 | _,[]=>decide (g.a.a=g.n - 1)
 | _,_=>decide (g.b.a=g.a.a + 1)
def missB (root:Hsh)(k:Bs)(g:Gp):Bool:=sideB root g.n (fun a=>blt a k) g.l g.a && (sideB root g.n (fun a=>blt k a) g.r g.b && endB root g)
def fndAt (l:List Ent)(k:Bs):Nat:=l.findIdx fun x=>!blt x.key k
def fndIs (l:List Ent)(k:Bs):Bool:=decide (fndAt l k < l.length/\(l.getD (fndAt l k) ⟨[],[]⟩).key=k)
attribute [irreducible] fndIs




end Go.Proofs.YtndhpgclmgpmoaaGreatDoor

namespace Av
open Go Go.RowKit Tw
section
variable {P:Program} {N:Nat} {ops:Array Oper} {Q:Exit->Act->World->Prop} {rest:List Oper} {s:Base} {e:Env} {m:List Piece} {d:Nat} {ty:TypeId} {pos:String} {af:Array Edge}
end
end Av
namespace Go.Proofs.YtndhpgclmgpmoaaGreatDoor
open Go Go.RowKit Tw Av
end Go.Proofs.YtndhpgclmgpmoaaGreatDoor

namespace Go.Proofs.YtndhpgclmgpmoaaGreatDoor
open Go Go.RowKit Tw Av


end Go.Proofs.YtndhpgclmgpmoaaGreatDoor

namespace Av
open Go Go.RowKit Tw
section
variable {P:Program} {N:Nat} {s:Base} {e:Env} {m:List Piece}
end
end Av
namespace Go.Proofs.YtndhpgclmgpmoaaGreatDoor
open Go Go.RowKit Tw Av
instance {k:Nat}:ImpT (.lit (.slice none 0 0)) (.sl k [] (some (.slice none 0 0))):=⟨ImpC.nilS⟩
end Go.Proofs.YtndhpgclmgpmoaaGreatDoor

namespace Go.Proofs.YtndhpgclmgpmoaaGreatDoor
open Go Go.RowKit Tw Av

def prfB (p:Prf):Bs:=tlvI 105 p.a++tlvI 109 p.m++tlvA 112 (p.p.map fun h=>h.l)
def sideT (l:List Ent):List Bs:=l.flatMap fun x=>[x.key,x.val]
def sidB (l:List Ent)(p:Prf):Bs:=tlvA 101 (sideT l)++tlvT 80 (prfB p)
def gapB (g:Gp):Bs:=tlvI 109 g.n++sidB g.l g.a++sidB g.r g.b
instance fnRPBytes {i m:Int}{p:List Hsh}{xs:List AV}{id:Option Value}[hx:Hshs xs p]:Ans Tryz.prog GL 81 [.agg 3 [int i,int m,.sl 32 xs id]] (p.length<=1000000/\i<=9223372036854775807/\m<=9223372036854775807) (str (prfB ⟨i,m,p⟩)):=⟨fun hp=>by
 obtain⟨hn,hi,hmm⟩:=hp
 have h:=hx.out
 subst h
 have hm:(p.map hA).length=p.length:=llm _
 refine qE Tryz.func81 rfl Tryz.ntmps81 rfl (fun _ hs=>?_)
 repeat' first|refine Yz ?_|intro _
 rename_i g1
 refine ac_as 3 (Imp.nil (k:=1)) ?_
 refine ac_st (fun ok w h=>h.full 9 1 none 0) ?_
 refine ac_loop (α:=Nat × Value) (fun q=>[(1,ptr g1),(3,.sl 1 (((p.take q.1).map fun h=>h.l).map str) (some q.2)),(4,int q.1)]) (fun q=>[.tail 9 1 q.2,.var g1 93 (.agg 3 [int i,int m,.sl 32 (p.map hA) id])]) (fun q=>q.1<=p.length) (fun q=>p.length - q.1) (0,.slice none 0 0) ⟨rfl,rfl,rfl,trivial⟩ slr (Nat.zero_le _) ?_
 rintro⟨j,v⟩ hj
 dsimp only at hj ⊢
 repeat' first|refine Yz ?_|intro _
 refine ac_cond (fun hlt=>?_) (fun hlt=>?_)
 ·have hil:j < p.length:=by omega
  have hml:((p.take j).map fun h=>h.l).length<=1000000:=by simp;omega
  repeat' first|refine Yz ?_|intro _
  refine al_append (fun v'=>?_)
  repeat' first|refine Yz ?_|intro _
  refine ae_round (j + 1,v') ⟨rfl,?_,rfl,trivial⟩ slr hil (by dsimp only;omega)
  rw [List.take_succ_eq_append_getElem hil,List.map_append,List.map_append]
  rfl
 ·obtain rfl:j=p.length:=by omega
  rw [List.take_length]
  have hml:(p.map fun h=>h.l).length<=8000000:=by simp;omega
  repeat' first|refine Yz ?_|intro _
  refine reE ?_
  rfl⟩

theorem sideT_len (l:List Ent):(sideT l).length=l.length * 2:=by
 induction l with
 | nil=>rfl
 | cons x l ih=>simp [sideT] at ih ⊢;omega
theorem sideT_next {l:List Ent}{j:Nat}(h:j < l.length):sideT (l.take (j + 1))=sideT (l.take j)++[l[j].key,l[j].val]:=by
 unfold sideT
 rw [List.take_succ_eq_append_getElem h,List.flatMap_append]
 simp
instance {l:List Ent}{p:Prf}:LenLe (sidB l p) 33554438:=⟨by
 have h1:=tlvT_len 101 ((sideT l).flatMap (tlvT 101))
 have h2:=tlvT_len 80 (prfB p)
 have e:sidB l p=tlvT 101 ((sideT l).flatMap (tlvT 101))++tlvT 80 (prfB p):=rfl
 rw [e,lla]
 omega⟩
instance fnRPSide {l:List Ent}{i m:Int}{p:List Hsh}{xs ys:List AV}{id id2:Option Value}[hx:Ents xs l][hy:Hshs ys p]:Ans Tryz.prog GL 122 [.sl 2 xs id,.agg 3 [int i,int m,.sl 32 ys id2]] (l.length<=1000000/\p.length<=1000000/\i<=9223372036854775807/\m<=9223372036854775807) (str (sidB l ⟨i,m,p⟩)):=⟨fun hp=>by
 obtain⟨hll,hn,hi,hmm⟩:=hp
 have h:=hx.out
 have h2:=hy.out
 subst h h2
 have hm:(l.map entA).length=l.length:=llm _
 refine qE Tryz.func122 rfl Tryz.ntmps122 rfl (fun _ hs=>?_)
 repeat' first|refine Yz ?_|intro _
 rename_i g1
 refine ac_as 5 (Imp.nil (k:=1)) ?_
 refine ac_st (fun ok w h=>h.full 9 1 none 0) ?_
 refine ac_loop (α:=Nat × Value) (fun q=>[(0,.sl 2 (l.map entA) id),(3,ptr g1),(5,.sl 1 ((sideT (l.take q.1)).map str) (some q.2)),(6,int q.1)]) (fun q=>[.tail 9 1 q.2,.var g1 93 (.agg 3 [int i,int m,.sl 32 (p.map hA) id2])]) (fun q=>q.1<=l.length) (fun q=>l.length - q.1) (0,.slice none 0 0) ⟨rfl,rfl,rfl,rfl,trivial⟩ slr (Nat.zero_le _) ?_
 rintro⟨j,v⟩ hj
 dsimp only at hj ⊢
 repeat' first|refine Yz ?_|intro _
 refine ac_cond (fun hlt=>?_) (fun hlt=>?_)
 ·have hil:j < l.length:=by omega
  have hml:(sideT (l.take j)).length<=2000000:=by rw [sideT_len];simp;omega
  repeat' first|refine Yz ?_|intro _
  refine al_append (fun v'=>?_)
  repeat' first|refine Yz ?_|intro _
  refine al_append (fun v''=>?_)
  repeat' first|refine Yz ?_|intro _
  refine ae_round (j + 1,v'') ⟨rfl,rfl,?_,rfl,trivial⟩ slr hil (by dsimp only;omega)
  rw [sideT_next hil,List.map_append]
  simp
  rfl
 ·obtain rfl:j=l.length:=by omega
  rw [List.take_length]
  have hml:(sideT l).length<=8000000:=by rw [sideT_len];omega
  repeat' first|refine Yz ?_|intro _
  refine reE ?_
  rfl⟩
structure GapW (g:Gp):Prop where
 l:g.l.length<=1000000/\g.a.p.length<=1000000/\g.a.a<=9223372036854775807/\g.a.m<=9223372036854775807
 r:g.r.length<=1000000/\g.b.p.length<=1000000/\g.b.a<=9223372036854775807/\g.b.m<=9223372036854775807
 n:g.n<=9223372036854775807
instance fnRGBytes {n i m i2 m2:Int}{l r:List Ent}{p q:List Hsh}{xs ys zs ws:List AV}{d1 d2 d3 d4:Option Value}[hx:Ents xs l][hy:Ents ys r][hz:Hshs zs p][hw:Hshs ws q]:Ans Tryz.prog GL 82 [.agg 9 [int n,.sl 2 xs d1,.sl 2 ys d2,.agg 3 [int i,int m,.sl 32 zs d3],.agg 3 [int i2,int m2,.sl 32 ws d4]]] (GapW ⟨n,l,r,⟨i,m,p⟩,⟨i2,m2,q⟩⟩) (str (gapB ⟨n,l,r,⟨i,m,p⟩,⟨i2,m2,q⟩⟩)):=⟨fun hp=>by
 obtain⟨hl,hr,hn⟩:=hp
 dsimp only at hl hr hn
 refine qE Tryz.func82 rfl Tryz.ntmps82 rfl (fun _ hs=>?_)
 repeat' first|refine Yz ?_|intro _
 refine reE ?_
 rfl⟩
end Go.Proofs.YtndhpgclmgpmoaaGreatDoor
