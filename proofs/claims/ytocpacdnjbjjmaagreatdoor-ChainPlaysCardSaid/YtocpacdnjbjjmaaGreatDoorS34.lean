/- . -/
import Derived.Test.YtocpacdnjbjjmaaGreatDoorS33
set_option maxHeartbeats 64000000
namespace Go.Proofs.YtocpacdnjbjjmaaGreatDoor
open Go Go.RowKit Tw Av
theorem a6k {x:Hdr}:aS x=true↔(1<=x.c.length/\x.c.length<=32/\1<=x.h/\x.h<=1099511627776/\0<=x.t/\x.t<=1099511627776):=by
 unfold aS;exact decide_eq_true_iff
theorem Pq {x:Cli}:aN x=true↔((x.k.length<=64/\1<=x.p/\x.p<=1099511627776/\1<=x.l.length/\x.l.length<=32)/\∀ i,i<x.l.length->pR x.c x.l i=true):=by
 unfold aN;rw[bet,decide_eq_true_iff,List.all_eq_true];simp
theorem a2g {x:Cli}(h:aN x=true):∀ s∈x.l,aS (uI x.c s)=true:=by
 intro s hs;obtain⟨i,hi,rfl⟩:=List.getElem_of_mem hs;have:=(Pq.1 h).2 i hi;unfold pR at this;rw[Bool.and_eq_true,show x.l.getD i X3=x.l[i] by simp[List.getD,hi]] at this;exact this.1

structure TxX where
 k:Int
 i:Bs
 o:Bs
 p:Bs
 q:Bs
 y:Bs
 e:Int
 h:Hdr
 m:Hsh
 x:Pkt
 a:Bs
 t:Int
 f:Prf
 g:Gp
abbrev U0 (x:TxX):AV:=.agg 100 [int x.k,str x.i,str x.o,str x.p,str x.q,str x.y,int x.e,jK x.h,hA x.m,Dz x.x,str x.a,int x.t,iE x.f,BU x.g]
structure Rep where
 e:Int
 q:Int
 a:Bs
deriving DecidableEq
abbrev J6 (r:Rep):AV:=.agg 3 [int r.e,int r.q,str r.a]
def vM:Rep:=⟨0,0,[]⟩
def sJ (e:Int):Rep:=⟨e,0,[]⟩
def aA (d:List Ent)(i:Bs):Cli:=qU (Q3 d (J3 [67] i))
def V6 (d:List Ent)(i:Bs):Bool:=decide (pF (Q3 d (J3 [67] i))=0)
def H5 (d:List Ent)(k i:Bs):EndX:=kD (Q3 d (J3 k i))
def O0 (d:List Ent)(k i:Bs):Bool:=decide (pE (Q3 d (J3 k i))=0)
def dP (d:List Ent)(i:Bs):Int:=if rE (Q3 d (J3 [78] i))=0 then xS (Q3 d (J3 [78] i)) else 1
def mH (d:List Ent)(i:Bs)(h t:Int):Int:=if V6 d i=false then 12 else if lX (aA d i) t=false then 19 else if (rJ (aA d i).l h).isSome=false then 18 else 0
def sG (d:List Ent)(i:Bs)(h t:Int):Sta:=if mH d i h t=0 then (rJ (aA d i).l h).getD X3 else X3
def bY (d:List Ent)(i:Bs)(h t:Int)(k v:Bs)(p:Prf):Int:=if mH d i h t=0/\xV (sG d i h t).r ⟨k,v⟩ p=false then 18 else mH d i h t
def UJ (d:List Ent)(i:Bs)(h t:Int)(k:Bs)(g:Gp):Int:=if mH d i h t=0/\a2c (sG d i h t).r k g=false then 18 else mH d i h t
def Ih (d:List Ent)(i:Bs)(h t:Int)(k:Bs)(g:Gp):Sta:=if UJ d i h t k g=0 then sG d i h t else X3
abbrev Out18:=List Ent × Rep
def K8 (d:List Ent)(e:Int):Out18:=(d,sJ e)
def oP (d:List Ent)(r:List Ent × Int)(p:Rep):Out18:=if r.2=0 then (r.1,p) else K8 d r.2
def xL (d:List Ent)(k v:Bs):Out18:=oP d (U2 d k v) vM
def rF (d:List Ent)(x:Pkt):Out18:=if W9 x.d=false\/0<iK x.d\/Y3 x.g=false then K8 d 1 else oP d (iI d x.g x.d x.a) vM
def rD (d:List Ent)(x:Pkt):Out18:=if W9 x.d=false\/Y3 x.f=false\/Y3 x.g=false then K8 d 1 else oP d (eQ d x.f x.g x.d x.a) vM
def CE (d:List Ent)(x:TxX):Out18:=if H9 x.i=false then K8 d 1 else if V6 d x.i=true then K8 d 13 else if xO x.y x.e x.h≠0 then K8 d (xO x.y x.e x.h) else xL d (J3 [67] x.i) (wG (BD x.y x.e x.h))
def zJ (d:List Ent)(x:TxX)(t:Int):Out18:=if V6 d x.i=false then K8 d 12 else if fA (aA d x.i) x.h x.m t≠0 then K8 d (fA (aA d x.i) x.h x.m t) else xL d (J3 [67] x.i) (wG (jR (aA d x.i) x.h x.m t))
def NY (d:List Ent)(x:TxX)(i k:Bs)(try':Bool)(t:Int):Out18:=
 if try'=false then (if (BR x.o x.q).2≠0 then K8 d (BR x.o x.q).2 else xL d (J3 k x.i) (iL (BR x.o x.q).1))
 else if bY d i x.t t (J3 k x.p) (iL ⟨1,x.q,x.o,[]⟩) x.f≠0 then K8 d (bY d i x.t t (J3 k x.p) (iL ⟨1,x.q,x.o,[]⟩) x.f)
 else if (zM x.o x.p ⟨1,x.q,x.o,[]⟩).2≠0 then K8 d (zM x.o x.p ⟨1,x.q,x.o,[]⟩).2
 else xL d (J3 k x.i) (iL (zM x.o x.p ⟨1,x.q,x.o,[]⟩).1)
def CF (d:List Ent)(x:TxX)(t:Int):Out18:=if H9 x.i=false then K8 d 1 else if O0 d [75] x.i=true then K8 d 13 else if V6 d x.o=false then K8 d 12 else NY d x x.o [75] (decide (x.k=6)) t
def AP (d:List Ent)(x:TxX)(t:Int):Out18:=if H9 x.i=false then K8 d 1 else if O0 d [72] x.i=true then K8 d 13 else if O0 d [75] x.o=false then K8 d 12 else if (H5 d [75] x.o).s≠3 then K8 d 13 else NY d x (H5 d [75] x.o).o [72] (decide (x.k=10)) t
def vH (own:EndX)(i:Bs)(ack:Bool):EndX:=⟨if ack=true then 2 else 3,own.q,own.o,i⟩
def GA (d:List Ent)(x:TxX)(own:EndX)(i k:Bs)(ack:Bool)(t:Int):Out18:=
 if bY d i x.t t (J3 k (if ack=true then x.p else own.p)) (iL (vH own x.i ack)) x.f≠0 then K8 d (bY d i x.t t (J3 k (if ack=true then x.p else own.p)) (iL (vH own x.i ack)) x.f)
 else if (if ack=true then IW own x.i x.p (vH own x.i ack) else IJ own x.i (vH own x.i ack)).2≠0 then K8 d (if ack=true then IW own x.i x.p (vH own x.i ack) else IJ own x.i (vH own x.i ack)).2
 else xL d (J3 k x.i) (iL (if ack=true then IW own x.i x.p (vH own x.i ack) else IJ own x.i (vH own x.i ack)).1)
def CG (d:List Ent)(x:TxX)(t:Int):Out18:=if O0 d [75] x.i=false then K8 d 12 else GA d x (H5 d [75] x.i) (H5 d [75] x.i).o [75] (decide (x.k=7)) t
def AQ (d:List Ent)(x:TxX)(t:Int):Out18:=if O0 d [72] x.i=false\/O0 d [75] (H5 d [72] x.i).o=false then K8 d 12 else GA d x (H5 d [72] x.i) (H5 d [75] (H5 d [72] x.i).o).o [72] (decide (x.k=11)) t
def CL (d:List Ent)(i:Bs)(asked:EndX->Bool):Int:=if O0 d [72] i=false then 12 else if (H5 d [72] i).s≠3\/asked (H5 d [72] i)=false then 13 else 0
def wH (d:List Ent)(i:Bs):Bool:=O0 d [75] (H5 d [72] i).o
def gJ (d:List Ent)(i:Bs):Bs:=(H5 d [75] (H5 d [72] i).o).o
def goes (d:List Ent)(x:Pkt):Pkt:={ x with q:=dP d x.s,k:=(H5 d [72] x.s).p }
def zP (d:List Ent)(x:Pkt):Out18:=
 if CL d x.s (fun _=>true)≠0 then K8 d (CL d x.s fun _=>true)
 else if dJ (goes d x)=false then K8 d 1
 else if wH d x.s=false\/V6 d (gJ d x.s)=false then K8 d 12
 else if jH (goes d x) (eU (aA d (gJ d x.s)).l).h (eU (aA d (gJ d x.s)).l).t=true then K8 d 21
 else oP d (U6 (fun d=>mM d (goes d x)) (U6 (fun y=>U2 y (Z7 [80] x.s (goes d x).q) (nD (goes d x))) (fun y=>U2 y (J3 [78] x.s) (D8 110 ((goes d x).q+1)))) d) ⟨0,(goes d x).q,[]⟩
def IV (d:List Ent)(x:Pkt):Bs:=if (bV d x).2=0 then [43] else NE (bV d x).2
def AB (d:List Ent)(x:TxX)(h t:Int):Out18:=
 if dJ x.x=false then K8 d 1
 else if CL d x.x.k (fun c=>decide (c.p=x.x.s))≠0 then K8 d (CL d x.x.k fun c=>decide (c.p=x.x.s))
 else if jH x.x h t=true then K8 d 21
 else if (gO d (Z7 [71] x.x.k x.x.q)).isSome=true then K8 d 20
 else if wH d x.x.k=false then K8 d 12
 else if bY d (gJ d x.x.k) x.t t (Z7 [80] x.x.s x.x.q) (nD x.x) x.f≠0 then K8 d (bY d (gJ d x.x.k) x.t t (Z7 [80] x.x.s x.x.q) (nD x.x) x.f)
 else oP d (U2 (if (bV d x.x).2=0 then (bV d x.x).1 else d) (Z7 [71] x.x.k x.x.q) (FE (IV d x.x))) ⟨0,0,IV d x.x⟩
def NF (d:List Ent)(x:Pkt)(b:Bool)(e:Int):Out18:=
 if CL d x.s (fun c=>decide (c.p=x.k))≠0 then K8 d (CL d x.s fun c=>decide (c.p=x.k))
 else if gO d (Z7 [80] x.s x.q)≠some (nD x)\/wH d x.s=false then K8 d 12
 else if e≠0 then K8 d e
 else if b=true/\(wL d x).2≠0 then K8 d (wL d x).2
 else (jM (if b=true then (wL d x).1 else d) (Z7 [80] x.s x.q),vM)
def IU (d:List Ent)(x:TxX)(t:Int):Out18:=if dJ x.x=false\/Rn x.a=false then K8 d 1 else NF d x.x (decide (Rm x.a≠0)) (bY d (gJ d x.x.s) x.t t (Z7 [71] x.x.k x.x.q) (FE x.a) x.f)
def YV (d:List Ent)(x:TxX)(t:Int):Int:=if UJ d (gJ d x.x.s) x.t t (Z7 [71] x.x.k x.x.q) x.g=0/\jH x.x (Ih d (gJ d x.x.s) x.t t (Z7 [71] x.x.k x.x.q) x.g).h (Ih d (gJ d x.x.s) x.t t (Z7 [71] x.x.k x.x.q) x.g).t=false then 21 else UJ d (gJ d x.x.s) x.t t (Z7 [71] x.x.k x.x.q) x.g
def EA (d:List Ent)(x:TxX)(t:Int):Out18:=if dJ x.x=false then K8 d 1 else NF d x.x true (YV d x t)
def E5 (d:List Ent)(x:TxX)(h t:Int):Out18:=
 if x.k=1 then rF d x.x else if x.k=2 then rD d x.x else if x.k=3 then CE d x else if x.k=4 then zJ d x t
 else if x.k=5\/x.k=6 then CF d x t else if x.k=7\/x.k=8 then CG d x t else if x.k=9\/x.k=10 then AP d x t else if x.k=11\/x.k=12 then AQ d x t
 else if x.k=13 then zP d x.x else if x.k=14 then AB d x h t else if x.k=15 then IU d x t else if x.k=16 then EA d x t else K8 d 1
end Go.Proofs.YtocpacdnjbjjmaaGreatDoor

namespace Go.Proofs.YtocpacdnjbjjmaaGreatDoor
open Go Go.RowKit Tw Av Go.Proofs.Tryz
theorem getD_in {l:Bs}{i:Nat}(h:i<l.length):l.getD i 0=l[i]:=by simp[List.getD,h]
theorem LV {s:Bs}:iG s=true↔∀ j,j<s.length->(s.getD j 0).toNat≠47:=by
 unfold iG;rw[List.all_eq_true]
 constructor
 ·intro h j hj;have:=of_decide_eq_true (h s[j] (List.getElem_mem hj));rw[getD_in hj];intro e;exact this (UInt8.toNat_inj.1 e)
 ·intro h c hc;obtain⟨j,hj,rfl⟩:=List.getElem_of_mem hc;have:=h j hj;rw[getD_in hj] at this;exact dT fun e=>this (by rw[e];rfl)
theorem SX {s:Bs}{i:Nat}(hi:i<s.length)(h:(s.getD i 0).toNat=47):iG s=false:=by
 cases hn:iG s
 ·rfl
 ·exact absurd h (LV.1 hn i hi)
theorem Ed {s:Bs}(h:iG s=false):H9 s=false:=by unfold H9;rw[h];rfl
theorem Ec {s:Bs}(h:iG s=true):H9 s=decide (1<=s.length/\s.length<=32):=by unfold H9;rw[h];rfl
instance b4H {s:Bs}:Ans prog GL 303 [str s] True (j3 (H9 s)):=⟨fun _=>by
 refine qE func303 rfl ntmps303 rfl (fun _ hs=>?_);repeat' first|refine Vz ?_|intro _
 refine a7B (fun g=>?_);repeat' first|refine Vz ?_|intro _
 refine z8 (α:=Nat) (fun i=>[(0,str s),(6,ptr g)]) (fun i=>[.obj g (.stringIter ⟨s.toArray⟩ i)]) (fun i=>i<=s.length/\∀ j,j<i->(s.getD j 0).toNat≠47) (fun i=>s.length-i) 0 ⟨rfl,rfl,trivial⟩ slr ⟨Nat.zero_le _,fun _ h=>absurd h om⟩ ?_;rintro i ⟨hi,hall⟩;repeat' first|refine Vz ?_|intro _
 by_cases hlt:i<s.length
 ·obtain⟨w1,w2,w3⟩:=Ah hlt;obtain⟨r1,r2⟩:=Zf hlt (show 47<128 by decide);refine a7P (pre:=[]) (post:=[]) hlt rfl ?_;repeat' first|refine Vz ?_|intro _
  refine o9 (fun h=>?_) (fun h=>?_)
  ·repeat' first|refine Vz ?_|intro _
   refine d9 ?_;rw[Ed (SX hlt (r1.1 om))];rfl
  ·repeat' first|refine Vz ?_|intro _
   refine o6 (i+(iA s i).2) ⟨rfl,rfl,trivial⟩ slr ⟨w2,fun j hj=>?_⟩ om;by_cases hj2:j<i
   ·exact hall j hj2
   ·exact r2 om j om hj
 ·refine a7Q (g:=g) om (List.mem_singleton.2 rfl) ?_;have hy:iG s=true:=LV.2 fun j hj=>hall j om;rw[Ec hy];rcases s with _|⟨c,s⟩
  ·repeat' first|refine Zz ?_|intro _
   refine d9 ?_;rfl
  ·repeat' first|refine Zz ?_|intro _
   refine d9 ?_;rw[decide_eq_decide.2 (show (1<=(c::s).length/\(c::s).length<=32)↔(((c::s).length:Int)<=32) by rw[List.length_cons];omega)];rfl⟩
instance b5r {s:Bs}:Ans prog GL 199 [str s] (s.length<=4611686018427387904) (j3 (H9 s)):=⟨fun hl=>by
 refine qE func199 rfl ntmps199 rfl (fun _ hs=>?_);repeat' first|refine Vz ?_|intro _
 refine z8 (α:=Nat) (fun i=>[(0,str s),(3,int i)]) (fun i=>[]) (fun i=>i<=s.length/\∀ j,j<i->(s.getD j 0).toNat≠47) (fun i=>s.length-i) 0 ⟨rfl,rfl,trivial⟩ slr ⟨Nat.zero_le _,fun _ h=>absurd h om⟩ ?_;rintro i ⟨hi,hall⟩;repeat' first|refine Vz ?_|intro _
 refine o9 (fun hlt=>?_) (fun hlt=>?_)
 ·have hil:i<s.length:=om
  repeat' first|refine Vz ?_|intro _
  refine rQ i ?_ (List.getElem?_eq_getElem hil);repeat' first|refine Vz ?_|intro _
  refine o9 (fun h=>?_) (fun h=>?_)
  ·repeat' first|refine Vz ?_|intro _
   refine d9 ?_;rw[Ed (SX hil (by rw[getD_in hil];omega))];rfl
  ·repeat' first|refine Vz ?_|intro _
   refine o6 (i+1) ⟨rfl,rfl,trivial⟩ slr ⟨hil,fun j hj=>?_⟩ om;by_cases hj2:j<i
   ·exact hall j hj2
   ·obtain rfl:j=i:=by omega
    rw[getD_in hil];omega
 ·have hy:iG s=true:=LV.2 fun j hj=>hall j om;rw[Ec hy];repeat' first|refine Vz ?_|intro _
  by_cases h1:1<=s.length
  ·repeat' first|refine Zz ?_|intro _
   refine d9 ?_;rw[decide_eq_decide.2 (show (1<=s.length/\s.length<=32)↔((s.length:Int)<=32) by omega)];rfl
  ·repeat' first|refine Zz ?_|intro _
   refine d9 ?_;have h0:¬ (1<=s.length/\s.length<=32):=fun h=>h1 h.1;rw[dZ h0];rfl⟩
theorem EF (s:Bs):A8 s≠[]:=by
 cases s with
 | nil=>simp[A8]
 | cons c s=>
  rw[A8];split <;> simp
theorem ZH:∀ s:Bs,A8 (s++[47])=A8 s++[[]]
 | []=>rfl
 | c::s=>by
  have ih:=ZH s;rw[List.cons_append,A8,A8,ih];split
  ·rfl
  ·have hn:=EF s;cases h:A8 s with
   | nil=>exact absurd h hn
   | cons a l=>rfl
theorem ZI {c:UInt8}(hc:c≠47):∀ s:Bs,A8 (s++[c])=(A8 s).dropLast++[(A8 s).getLastD []++[c]]
 | []=>by simp[A8,hc]
 | d::s=>by
  have ih:=ZI hc s;have hn:=EF s;rw[List.cons_append,A8,A8,ih];cases h:A8 s with
  | nil=>exact absurd h hn
  | cons a l=>
   split
   ·cases l <;> simp
   ·cases l <;> simp
theorem QI (s:Bs):(A8 s).dropLast++[(A8 s).getLastD []]=A8 s:=by
 have hn:=EF s;cases h:A8 s with
 | nil=>exact absurd h hn
 | cons a l=>
  rw[List.getLastD_cons,<- List.getLast_eq_getLastD (h:=by simp)];exact List.dropLast_concat_getLast _
theorem EG:∀ s:Bs,(A8 s).length=s.count 47+1
 | []=>rfl
 | c::s=>by
  have ih:=EG s;have hn:=EF s;rw[A8];split
  ·rename_i h;subst h;simp[ih]
  ·rename_i h;rw[List.count_cons_of_ne (by exact h)];cases h2:A8 s with
   | nil=>exact absurd h2 hn
   | cons a l=>rw[h2] at ih;simpa using ih
theorem QH {s x:Bs}(h:x∈A8 s):x.length<=s.length:=by
 induction s generalizing x with
 | nil=>simp[A8] at h;simp[h]
 | cons c s ih=>
  have hn:=EF s;rw[A8] at h;split at h
  ·rcases List.mem_cons.1 h with rfl|h
   ·simp
   ·have:=ih h;simp;omega
  ·cases h2:A8 s with
   | nil=>exact absurd h2 hn
   | cons a l=>
    rw[h2] at h;simp at h;rcases h with rfl|h
    ·have:=ih (x:=a) (by rw[h2];simp);simp;omega
    ·have:=ih (x:=x) (by rw[h2];simp[h]);simp;omega
instance b5q {s:Bs}:Ans prog GL 261 [str s] (s.length<=1000000000) (.sl 1 ((A8 s).map str) none):=⟨fun hl=>by
 refine qE func261 rfl ntmps261 rfl (fun _ hs=>?_);repeat' first|refine Vz ?_|intro _
 refine aM 3 (Imp.nil (k:=1)) ?_;refine O5 (fun ok w h=>h.full 9 1 none 0) ?_;refine z8 (α:=Nat × Value) (fun q=>[(0,str s),(3,.sl 1 ((A8 (s.take q.1)).dropLast.map str) (some q.2)),(4,str ((A8 (s.take q.1)).getLastD [])),(5,int q.1)]) (fun q=>[.tail 9 1 q.2]) (fun q=>q.1<=s.length) (fun q=>s.length-q.1) (0,.slice none 0 0) ⟨rfl,rfl,rfl,rfl,trivial⟩ slr (Nat.zero_le _) ?_;rintro⟨i,v⟩ hi;dsimp only at hi ⊢;have hlen:=EG (s.take i);have hcnt:=List.count_le_length (l:=s.take i) (a:=(47:UInt8));have htl:(s.take i).length<=s.length:=List.length_take_le' _ _;have hlast:((A8 (s.take i)).getLastD []).length<=s.length:=by
  have h:=QI (s.take i);refine Nat.le_trans (QH (s:=s.take i) ?_) htl;rw[<- h];simp
 have hm:((A8 (s.take i)).dropLast.map str).length<=1000000001:=by rw[llm,List.length_dropLast];omega
 repeat' first|refine Vz ?_|intro _
 refine o9 (fun hlt=>?_) (fun hlt=>?_)
 ·have hil:i<s.length:=om
  have htk:s.take (i+1)=s.take i++[s[i]]:=List.take_succ_eq_append_getElem hil;repeat' first|refine Vz ?_|intro _
  refine rQ i ?_ (List.getElem?_eq_getElem hil);repeat' first|refine Vz ?_|intro _
  refine o9 (fun h=>?_) (fun h=>?_)
  ·have h47:s[i]=47:=UInt8.toNat_inj.1 (by show _=47;omega);have hsp:A8 (s.take (i+1))=A8 (s.take i)++[[]]:=by rw[htk,h47,ZH]
   repeat' first|refine Vz ?_|intro _
   refine I4 (fun v'=>?_);repeat' first|refine Vz ?_|intro _
   have e1:(A8 (s.take (i+1))).dropLast.map str=(A8 (s.take i)).dropLast.map str++[str ((A8 (s.take i)).getLastD [])]:=by
    rw[hsp,List.dropLast_concat]
    conv=>lhs;rw[<- QI (s.take i)]
    rw[List.map_append];rfl
   have e2:(A8 (s.take (i+1))).getLastD []=[]:=by rw[hsp,List.getLastD_concat]
   rw[<- e1];refine M6 4 (v:=str []) (v':=str ((A8 (s.take (i+1))).getLastD [])) (Imp.of_eq (by rw[e2])) ?_;refine o6 (i+1,v') ⟨rfl,rfl,rfl,rfl,trivial⟩ ?_ hil (by dsimp only;omega);exact r9
  ·have h47:s[i]≠47:=fun e=>h (by rw[e];rfl);have hsp:A8 (s.take (i+1))=(A8 (s.take i)).dropLast++[(A8 (s.take i)).getLastD []++[s[i]]]:=by rw[htk,ZI h47]
   repeat' first|refine Vz ?_|intro _
   refine Q7 i (i+1) ?_;have hone:(s.take (i+1)).drop i=[s[i]]:=by
    rw[htk,List.drop_left' (by rw[List.length_take];omega)]
   rw[hone];have hl1:[s[i]].length=1:=rfl;repeat' first|refine Vz ?_|intro _
   have e1:(A8 (s.take (i+1))).dropLast=(A8 (s.take i)).dropLast:=by rw[hsp,List.dropLast_concat]
   have e2:(A8 (s.take (i+1))).getLastD []=(A8 (s.take i)).getLastD []++[s[i]]:=by rw[hsp,List.getLastD_concat]
   rw[<- e1,<- e2];refine o6 (i+1,v) ⟨rfl,rfl,rfl,rfl,trivial⟩ ?_ hil (by dsimp only;omega);exact r9
 ·obtain rfl:i=s.length:=by omega
  simp only[List.take_length] at hlen hcnt hlast hm ⊢;repeat' first|refine Vz ?_|intro _
  refine I4 (fun v'=>?_);repeat' first|refine Vz ?_|intro _
  refine E9 ?_;refine Imp.trans (Imp.of_eq (?_:_=.sl 1 ((A8 s).map str) (some v'))) ?_
  ·conv=>rhs;rw[<- QI s]
   rw[List.map_append];rfl
  ·exact Imp.sl⟩

abbrev dI (l:Bs):List AV:=l.map fun c=>int (c.toNat:Int)
class DIs (xs:List AV)(l:outParam Bs):Prop where
 out:xs=dI l
instance {l:Bs}:DIs (dI l) l:=⟨rfl⟩
theorem IE (l:Bs):(dI l).length=l.length:=llm _
theorem VN {n k:Nat}:dI (I6 n (k+1))=dI (I6 n k)++[int ((dg n k:Nat):Int)]:=by
 rw[Lt];unfold dI;rw[List.map_append,List.map_singleton,SK]
instance b7V {a:Wd}:Ans prog GL 153 [C9 a] True (.sl 1 (dI (I6 a.n 32)) none):=⟨fun _=>by
 refine qE func153 rfl ntmps153 rfl (fun _ hs=>?_);repeat' first|refine Vz ?_|intro _
 rename_i g1;refine aM 3 (Imp.nil (k:=1)) ?_;refine O5 (fun ok w h=>h.full 3 1 none 0) ?_;refine z8 (α:=Nat × Value) (fun q=>[(1,ptr g1),(3,.sl 1 (dI (I6 a.n q.1)) (some q.2)),(4,int q.1)]) (fun q=>[.tail 3 1 q.2,.var g1 94 (C9 a)]) (fun q=>q.1<=32) (fun q=>32-q.1) (0,.slice none 0 0) ⟨rfl,rfl,rfl,trivial⟩ slr (Nat.zero_le _) ?_;rintro⟨i,v⟩ hi;dsimp only at hi ⊢;have hm:(dI (I6 a.n i)).length=i:=by rw[IE,aR]
 have hm2:=aR a.n i;repeat' first|refine Vz ?_|intro _
 refine o9 (fun hlt=>?_) (fun hlt=>?_)
 ·have hi32:i<32:=om
  have hq:((i:Int) / 8)=((i / 8:Nat):Int):=om
  have hr:((i:Int)%8)=((i%8:Nat):Int):=om
  have hlm:=iJ a.n (i / 8);have hdv:lm a.n (i / 8) / 256 ^ (i%8)<18446744073709551616:=Nat.lt_of_le_of_lt (Nat.div_le_self _ _) hlm;have e1:=Fy a.n i;have e2:=uS a.n i;repeat' first|refine Vz ?_|intro _
  refine O8 (i / 8) ?_;repeat' first|refine Vz ?_|intro _
  refine bR (j:=i / 8) (DV om) ?_;repeat' first|refine Vz ?_|intro _
  rw[hr];repeat' first|refine Yz ?_|intro _
  refine Qb (i%8) ?_;refine a8K hdv ?_;rw[e1];repeat' first|refine Vz ?_|intro _
  refine I4 (fun v'=>?_);repeat' first|refine Vz ?_|intro _
  rw[<- VN];refine o6 (i+1,v') ⟨rfl,rfl,rfl,trivial⟩ ?_ hi32 (by dsimp only;omega);exact r9
 ·obtain rfl:i=32:=by omega
  repeat' first|refine Vz ?_|intro _
  refine E9 ?_;exact Imp.sl⟩
theorem yH {n k i:Nat}(h:i<(I6 n k).length):(I6 n k)[i].toNat=dg n i:=by
 have h1:i<k:=by rw[aR] at h;exact h
 have h2:=VO (n:=n) h1;rw[List.getElem?_eq_getElem h] at h2;injection h2 with h2
 rw[h2,SK]
instance b5N {a b:Wd}:Ans prog GL 341 [C9 a,C9 b] True (int (tF a b)):=⟨fun _=>by
 have hla:=aR a.n 32;have hlb:=aR b.n 32;refine qE func341 rfl ntmps341 rfl (fun _ hs=>?_);repeat' first|refine Vz ?_|intro _
 rename_i g2 g3;refine z8 (α:=Nat) (fun n=>[(5,.sl 1 (dI (I6 a.n 32)) none),(6,.sl 1 (dI (I6 b.n 32)) none),(7,int ((n:Int)-1))]) (fun n=>[]) (fun n=>n<=32/\a.n / 256 ^ n=b.n / 256 ^ n) (fun n=>n) 32 ⟨rfl,rfl,rfl,trivial⟩ (List.nil_sublist _) ⟨Nat.le_refl _,by rw[Nat.div_eq_of_lt a.lt,Nat.div_eq_of_lt b.lt]⟩ ?_;rintro n ⟨hn,he⟩;rcases n with _|k
 ·rw[Nat.pow_zero,Nat.div_one,Nat.div_one] at he;repeat' first|refine Zz ?_|intro _
  refine d9 ?_;unfold tF;rw[if_neg om,if_neg om];rfl
 ·rw[show ((k+1:Nat):Int)-1=(k:Int) by omega];have hka:k<(I6 a.n 32).length:=by omega
  have hkb:k<(I6 b.n 32).length:=om
  have ea:=yH hka;have eb:=yH hkb;have da:=Ll a.n k;have db:=Ll b.n k;repeat' first|refine Zz ?_|intro _
  refine o9 (fun h=>?_) (fun h=>?_)
  ·repeat' first|refine Vz ?_|intro _
   refine d9 ?_;have:a.n<b.n:=Fv (P:=256 ^ k) om;unfold tF;rw[if_pos this];rfl
  ·repeat' first|refine Vz ?_|intro _
   refine o9 (fun h2=>?_) (fun h2=>?_)
   ·repeat' first|refine Vz ?_|intro _
    refine d9 ?_;have:b.n<a.n:=Fv (P:=256 ^ k) om;unfold tF;rw[if_neg om,if_pos this];rfl
   ·repeat' first|refine Vz ?_|intro _
    refine o6 k ⟨rfl,rfl,rfl,trivial⟩ (List.nil_sublist _) ⟨om,om⟩ (Nat.lt_succ_self k)⟩
instance b5e {a:Wd}:Ans prog GL 92 [C9 a] True (str (X9 a.n)):=⟨fun _=>by
 have hla:=aR a.n 32;have hbl:=yO a.n;refine qE func92 rfl ntmps92 rfl (fun _ hs=>?_);repeat' first|refine Vz ?_|intro _
 refine aM 4 (Imp.nil (k:=1)) ?_;refine O5 (fun ok w h=>h.full 5 1 none 0) ?_;refine z8 (α:=Nat × Value) (fun q=>[(3,.sl 1 (dI (I6 a.n 32)) none),(4,.sl 1 (((X9 a.n).take (32-q.1)).map p9) (some q.2)),(5,int ((q.1:Int)-1))]) (fun q=>[.tail 5 1 q.2]) (fun q=>q.1<=32) (fun q=>q.1) (32,.slice none 0 0) ⟨rfl,rfl,rfl,trivial⟩ (by repeat (first|exact List.nil_sublist _|exact List.Sublist.refl _|apply List.Sublist.cons_cons|apply List.Sublist.cons)) (Nat.le_refl _) ?_;rintro⟨n,v⟩ hn;dsimp only at hn ⊢;rcases n with _|k
 ·rw[show 32-0=32 from rfl,List.take_of_length_le om];repeat' first|refine Zz ?_|intro _
  refine d9 ?_;rfl
 ·rw[show ((k+1:Nat):Int)-1=(k:Int) by omega];have hka:k<(I6 a.n 32).length:=by omega
  have ea:=yH hka;have hm:((X9 a.n).take (32-(k+1))).length<=32:=by rw[List.length_take];omega
  have hm2:(((X9 a.n).take (32-(k+1))).map p9).length<=32:=by rw[llm];exact hm
  have e2:((X9 a.n).take (32-k)).map p9=((X9 a.n).take (32-(k+1))).map p9++[p9 (UInt8.ofNat (dg a.n k))]:=by
   rw[show 32-k=32-(k+1)+1 by omega,Ov om,List.map_append,show 31-(32-(k+1))=k by omega];rfl
  repeat' first|refine Zz ?_|intro _
  rw[ea,JN];refine I4 (fun v'=>?_);repeat' first|refine Vz ?_|intro _
  rw[<- e2];refine o6 (k,v') ⟨rfl,rfl,rfl,trivial⟩ ?_ (by dsimp only;omega) (Nat.lt_succ_self k);repeat (first|exact List.nil_sublist _|exact List.Sublist.refl _|apply List.Sublist.cons_cons|apply List.Sublist.cons)⟩
theorem TU {l:Bs}{i:Nat}:K6 (l.take i)<256 ^ i:=by
 have h:=BN (l.take i);refine Nat.lt_of_lt_of_le h (Nat.pow_le_pow_right dc ?_);rw[List.length_take];omega
theorem Uv {n m i:Nat}{x:Nat}(hi:i<4)(h:∀ j,j<4->lm m j=if j=i then x else lm n j):[u6 (lm n 0),u6 (lm n 1),u6 (lm n 2),u6 (lm n 3)].set i (u6 x)=[u6 (lm m 0),u6 (lm m 1),u6 (lm m 2),u6 (lm m 3)]:=by
 have h0:=h 0 om;have h1:=h 1 om;have h2:=h 2 om;have h3:=h 3 om;rw[h0,h1,h2,h3];rcases i with _|_|_|_|i <;> first|rfl|omega
theorem a0G {l:Bs}{i:Nat}(hi:i<l.length)(j:Nat):lm (K6 (l.take (i+1))) j=if j=i / 8 then lm (K6 (l.take i)) (i / 8)+256 ^ (i%8)*l[i].toNat else lm (K6 (l.take i)) j:=by
 rw[Gf (List.getElem?_eq_getElem hi),a2o TU l[i].toNat_lt];split
 ·rename_i h;rw[h]
 ·rfl
instance b7i {l:Bs}{xs:List AV}{id:Option Value}[hx:DIs xs l]:Ans prog GL 288 [.sl 1 xs id] (l.length=32\/l.length=33) (.tup [C9 (X4 (K6 l)),j3 (T9 (K6 l))]):=⟨fun hlen=>by
 have h:=hx.out;subst h;have hm:(dI l).length=l.length:=IE l;have hbig:33=l.length->K6 l=K6 (l.take 32)+256 ^ 32*(l.getD 32 0).toNat:=fun h=>by
  have h1:=Gf (List.getElem?_eq_getElem (show 32<l.length by omega));rw[List.take_of_length_le om] at h1;rw[h1,getD_in om]
 refine qE func288 rfl ntmps288 rfl (fun _ hs=>?_);repeat' first|refine Vz ?_|intro _
 rename_i g2 g4;refine gM (g:=g4) (v:=U5 0) (v':=U5 (K6 (l.take 0))) (fun ok w cs h=>h) ?_;refine z8 (α:=Nat) (fun i=>[(0,.sl 1 (dI l) id),(2,ptr g2),(4,ptr g4),(5,int i)]) (fun i=>[.var g4 94 (U5 (K6 (l.take (min i 32)))),.var g2 94 (U5 0)])
  (fun i=>i<=l.length/\(i=33->l.getD 32 0=0)) (fun i=>l.length-i) 0 ⟨rfl,rfl,rfl,rfl,trivial⟩ slr ⟨Nat.zero_le _,fun h=>absurd h dc⟩ ?_
 rintro i ⟨hi,h33⟩;repeat' first|refine Vz ?_|intro _
 refine o9 (fun hlt=>?_) (fun hlt=>?_)
 ·have hil:i<l.length:=om
  repeat' first|refine Vz ?_|intro _
  by_cases h32:i=32
  ·subst h32;have hl33:33=l.length:=by omega
   have hb:=hbig hl33;repeat' first|refine Zz ?_|intro _
   refine o9 (fun h0=>?_) (fun h0=>?_)
   ·repeat' first|refine Vz ?_|intro _
    refine d9 ?_;have hc:1<=(l.getD 32 0).toNat:=by rw[getD_in hil];omega
    have hbb:¬ K6 l<115792089237316195423570985008687907853269984665640564039457584007913129639936:=by
     have h1:256 ^ 32*1<=256 ^ 32*(l.getD 32 0).toNat:=Nat.mul_le_mul_left _ hc;have h2:(256:Nat) ^ 32*1=115792089237316195423570985008687907853269984665640564039457584007913129639936:=by decide
     omega
    rw[YG hbb,show T9 (K6 l)=false from dZ hbb];rfl
   ·repeat' first|refine Zz ?_|intro _
    refine o6 33 ⟨rfl,rfl,rfl,rfl,trivial⟩ ?_ ⟨om,fun _=>by rw[getD_in hil];exact UInt8.toNat_inj.1 (by show _=0;omega)⟩ om;exact r9
  ·have hi32:i<32:=om
   have hr:((i:Int)%8)=((i%8:Nat):Int):=om
   have hby:=l[i].toNat_lt;have hps:=a0G hil;have htop:lm (K6 (l.take i)) (i / 8)<256 ^ (i%8):=a2n TU;have hset:=Uv (n:=K6 (l.take i)) (m:=K6 (l.take (i+1))) (x:=lm (K6 (l.take i)) (i / 8)+256 ^ (i%8)*l[i].toNat) (show i / 8<4 by omega) (fun j _=>hps j);rw[Nat.min_eq_left om];repeat' first|refine Zz ?_|intro _
   apply u7 [];exact rfl;exact rfl;kernel_rfl;intro _ _;refine O8 (i / 8) ?_;exact j4 (o7 rfl rfl);apply u7 [0];exact rfl;exact rfl;kernel_rfl;intro _ _;refine bR (j:=i / 8) (DV om) ?_;exact j4 (o7 rfl rfl);repeat' first|refine Yz ?_|intro _
   rw[hr];repeat' first|refine Yz ?_|intro _
   apply u7 [];exact rfl;exact rfl;kernel_rfl;intro _ _;refine a7x (i%8) ?_;exact j4 (o7 rfl rfl);apply u7 [];exact rfl;exact rfl;kernel_rfl;intro _ _;refine a7G ?_ rfl rfl htop hby om;exact j4 (o7 rfl rfl);repeat' first|refine Yz ?_|intro _
   apply u7 [];exact rfl;exact rfl;kernel_rfl;intro _ _;refine O8 (i / 8) ?_;exact j4 (o7 rfl rfl);apply bA [0];exact rfl;exact rfl;kernel_rfl;intro _ _;refine lU (ps:=[u6 (lm (K6 (l.take i)) 0),u6 (lm (K6 (l.take i)) 1),u6 (lm (K6 (l.take i)) 2),u6 (lm (K6 (l.take i)) 3)]) (j:=i / 8) (show i / 8<4 by omega) ?_;exact j4 (bG rfl);exact rfl;exact rfl;rw[hset];repeat' first|refine Yz ?_|intro _
   refine o6 (i+1) ⟨rfl,rfl,rfl,rfl,trivial⟩ ?_ ⟨hil,fun h=>absurd h om⟩ om;rw[Nat.min_eq_left om];exact r9
 ·obtain rfl:i=l.length:=by omega
  have hfin:K6 (l.take (min l.length 32))=K6 l:=by
   rcases hlen with h|h
   ·rw[Nat.min_eq_left om,List.take_length]
   ·rw[Nat.min_eq_right om,hbig h.symm,h33 h];rfl
  have hlt2:K6 l<115792089237316195423570985008687907853269984665640564039457584007913129639936:=by
   rw[<- hfin];refine Nat.lt_of_lt_of_le TU ?_;exact Nat.pow_le_pow_right (n:=256) (j:=32) dc om
  rw[hfin];repeat' first|refine Vz ?_|intro _
  refine d9 ?_;rw[show T9 (K6 l)=true from dT hlt2];show AV.tup [U5 _,_]=.tup [U5 _,_];rw[oK hlt2]⟩
theorem Lv (l:Bs)(c:UInt8):dI (l++[c])=dI l++[int (c.toNat:Int)]:=by
 unfold dI;rw[List.map_append];rfl
instance a4i {s:Bs}:Ans prog GL 225 [str s] (s.length<=1000000000) (.tup [C9 (if s.length=32 then X4 (iQ s) else wZ),int (if s.length=32 then 0 else 10)]):=⟨fun hl=>by
 refine qE func225 rfl ntmps225 rfl (fun _ hs=>?_);repeat' first|refine Vz ?_|intro _
 refine o9 (fun hne=>?_) (fun hne=>?_)
 ·have h32:¬ s.length=32:=om
  repeat' first|refine Vz ?_|intro _
  refine d9 ?_;rw[if_neg h32,if_neg h32];rfl
 have h32:s.length=32:=om
 repeat' first|refine Vz ?_|intro _
 rename_i g2;refine aM 4 (Imp.nil (k:=1)) ?_;refine O5 (fun ok w h=>h.full 3 1 none 0) ?_;refine z8 (α:=Nat × Value) (fun q=>[(0,str s),(2,ptr g2),(3,int 0),(4,.sl 1 (dI (s.reverse.take (32-q.1))) (some q.2)),(5,int ((q.1:Int)-1))]) (fun q=>[.tail 3 1 q.2,.var g2 94 (U5 0)]) (fun q=>q.1<=32) (fun q=>q.1) (32,.slice none 0 0) ⟨rfl,rfl,rfl,rfl,rfl,trivial⟩ (by repeat (first|exact List.nil_sublist _|exact List.Sublist.refl _|apply List.Sublist.cons_cons|apply List.Sublist.cons)) (Nat.le_refl _) ?_;rintro⟨n,v⟩ hn;dsimp only at hn ⊢;rcases n with _|k
 ·rw[show 32-0=32 from rfl,List.take_of_length_le (by rw[List.length_reverse];omega)];have hrl:s.reverse.length=32\/s.reverse.length=33:=.inl (by rw[List.length_reverse];omega);repeat' first|refine Zz ?_|intro _
  refine d9 ?_;rw[if_pos h32,if_pos h32];rfl
 ·rw[show ((k+1:Nat):Int)-1=(k:Int) by omega];have hk:k<s.length:=by omega
  have hm:(s.reverse.take (32-(k+1))).length<=32:=by rw[List.length_take];omega
  have hm2:(dI (s.reverse.take (32-(k+1)))).length<=32:=by rw[IE];exact hm
  have e0:s.reverse[32-(k+1)]'(by rw[List.length_reverse];omega)=s[k]:=by
   rw[List.getElem_reverse];congr 1
   omega
  have e2:dI (s.reverse.take (32-k))=dI (s.reverse.take (32-(k+1)))++[int (s[k].toNat:Int)]:=by
   rw[show 32-k=32-(k+1)+1 by omega,List.take_succ_eq_append_getElem (by rw[List.length_reverse];omega),Lv,e0]
  repeat' first|refine Zz ?_|intro _
  have hby:=s[k].toNat_lt;refine rQ k ?_ (List.getElem?_eq_getElem hk);repeat' first|refine Yz ?_|intro _
  refine I4 (fun v'=>?_);repeat' first|refine Vz ?_|intro _
  rw[<- e2];refine o6 (k,v') ⟨rfl,rfl,rfl,rfl,rfl,trivial⟩ ?_ (by dsimp only;omega) (Nat.lt_succ_self k);repeat (first|exact List.nil_sublist _|exact List.Sublist.refl _|apply List.Sublist.cons_cons|apply List.Sublist.cons)⟩
end Go.Proofs.YtocpacdnjbjjmaaGreatDoor

namespace Go.Proofs.YtocpacdnjbjjmaaGreatDoor
open Go Go.RowKit Tw Av
abbrev RS:={σ:Bs × Bool // σ.1.length<=1000000000}
def sT (c most:Int)(σ:RS):RS:=⟨(j5 c most σ.1.1 σ.1.2,A7 c most σ.1.1 σ.1.2),Nat.le_trans (Q9 c most σ.1.1 σ.1.2).1 σ.2⟩
def sI (c most:Int)(σ:RS):RS:=⟨(j5 c 8 σ.1.1 σ.1.2,K3 c most σ.1.1 σ.1.2),Nat.le_trans (Q9 c 8 σ.1.1 σ.1.2).1 σ.2⟩
def gT (c most:Int)(σ:RS):Bs:=D5 c most σ.1.1 σ.1.2
def gI (c most:Int)(σ:RS):Int:=J8 c most σ.1.1 σ.1.2
def gZ (σ:RS):Int:=P5 σ.1.1 σ.1.2
def y5 (σ:RS):AV:=A9 σ.1.1 σ.1.2
theorem BX (c most:Int)(σ:RS):(gT c most σ).length<=1000000000:=Nat.le_trans (Q9 c most σ.1.1 σ.1.2).2 σ.2
theorem a3Q {c most:Int}{σ:RS}(h:0<=most):0<=gI c most σ/\gI c most σ<=most:=by
 unfold gI J8;split <;> omega
def F8 (s:Bs):RS:=if h:s.length<=1000000000 then ⟨(s,false),h⟩ else ⟨([],true),dc⟩
theorem XE {s:Bs}(h:s.length<=1000000000):A9 s false=y5 (F8 s):=by
 unfold F8;rw[dif_pos h];rfl
def mE (σ:RS):RS:=sI 75 16 σ
def nY (σ:RS):RS:=sT 73 4000 (mE σ)
def nT (σ:RS):RS:=sT 79 4000 (nY σ)
def nS (σ:RS):RS:=sT 81 4000 (nT σ)
def nR (σ:RS):RS:=sT 82 4000 (nS σ)
def nQ (σ:RS):RS:=sT 89 4000 (nR σ)
def nP (σ:RS):RS:=sI 69 1099511627776 (nQ σ)
def nO (σ:RS):RS:=sT 99 4000 (nP σ)
def nN (σ:RS):RS:=sI 104 1099511627776 (nO σ)
def eZ (σ:RS):RS:=sI 116 1099511627776 (nN σ)
def gU (σ:RS):RS:=sT 114 32 (eZ σ)
def oI (σ:RS):RS:=sT 77 32 (gU σ)
def oH (σ:RS):RS:=sI 113 1099511627776 (oI σ)
def oG (σ:RS):RS:=sT 115 4000 (oH σ)
def oF (σ:RS):RS:=sT 107 4000 (oG σ)
def gQ (σ:RS):RS:=sT 100 4000 (oF σ)
def oD (σ:RS):RS:=sT 97 32 (gQ σ)
def oC (σ:RS):RS:=sT 102 4000 (oD σ)
def nZ (σ:RS):RS:=sT 103 4000 (oC σ)
def nX (σ:RS):RS:=sI 117 1099511627776 (nZ σ)
def nW (σ:RS):RS:=sI 118 1099511627776 (nX σ)
def nV (σ:RS):RS:=sT 65 4000 (nW σ)
def gP (σ:RS):RS:=sI 84 1099511627776 (nV σ)
def gN (σ:RS):RS:=sT 70 4000 (gP σ)
def nU (σ:RS):RS:=sT 71 4000 (gN σ)
def wS (σ:RS):Bs:=gT 114 32 (eZ σ)
def DD (σ:RS):Bs:=gT 77 32 (gU σ)
def DI (σ:RS):Bs:=gT 97 32 (gQ σ)
def DC (σ:RS):Bs:=gT 70 4000 (gP σ)
def DF (σ:RS):Bs:=gT 71 4000 (gN σ)
def wV (b:Bs):Wd:=if b.length=32 then X4 (iQ b) else wZ
def DY (σ:RS):TxX:=
 ⟨gI 75 16 σ,gT 73 4000 (mE σ),gT 79 4000 (nY σ),gT 81 4000 (nT σ),gT 82 4000 (nS σ),gT 89 4000 (nR σ),gI 69 1099511627776 (nQ σ),
  ⟨gT 99 4000 (nP σ),gI 104 1099511627776 (nO σ),gI 116 1099511627776 (nN σ),R4 (wS σ)⟩,R4 (DD σ),
  ⟨gI 113 1099511627776 (oI σ),gT 115 4000 (oH σ),gT 107 4000 (oG σ),gT 100 4000 (oF σ),wV (DI σ),gT 102 4000 (oD σ),gT 103 4000 (oC σ),gI 117 1099511627776 (nZ σ),gI 118 1099511627776 (nX σ)⟩,
  gT 65 4000 (nW σ),gI 84 1099511627776 (nV σ),fF (DC σ),kC (DF σ)⟩
def oM (σ:RS):Bool:=decide ((wS σ).length=32)&&(decide ((DD σ).length=32)&&(decide ((DI σ).length=32)&&(decide (bT (DC σ)=0)&&(decide (jA (DF σ)=0)&&decide (gZ (nU σ)=0)))))
def lY:TxX:=⟨0,[],[],[],[],[],0,PI,J7,Rz,[],0,lZ,vC⟩
def J5 (σ:RS):TxX:=if oM σ=true then DY σ else lY
def U7 (σ:RS):Int:=if oM σ=true then 0 else 10
def gV (x:TxX):Bs:=
 D8 75 x.k++o8 73 x.i++o8 79 x.o++o8 81 x.p++o8 82 x.q++o8 89 x.y++D8 69 x.e++o8 99 x.h.c++D8 104 x.h.h++D8 116 x.h.t++o8 114 x.h.r.l++o8 77 x.m.l
 ++ D8 113 x.x.q++o8 115 x.x.s++o8 107 x.x.k++o8 100 x.x.d++o8 97 (X9 x.x.a.n)++o8 102 x.x.f++o8 103 x.x.g++D8 117 x.x.h++D8 118 x.x.t
 ++ o8 65 x.a++D8 84 x.t++o8 70 (Y2 x.f)++o8 71 (jL x.g)
end Go.Proofs.YtocpacdnjbjjmaaGreatDoor

namespace Go.Proofs.YtocpacdnjbjjmaaGreatDoor
open Go Go.RowKit Tw Av Go.Proofs.Tryz
def aP (s:Bs):Nat:=s.findIdx fun c=>decide (c=47)
theorem Gv {s:Bs}:aP s<s.length↔iG s=false:=by
 unfold aP iG;rw[List.findIdx_lt_length]
 constructor
 ·rintro⟨x,hx,h⟩;rw[List.all_eq_false];exact⟨x,hx,by simpa using h⟩
 ·intro h;rw[List.all_eq_false] at h;obtain⟨x,hx,h⟩:=h;exact⟨x,hx,by simpa using h⟩
def mX (s:Bs):Int:=if aP s<s.length then (aP s:Int) else -1
theorem a2P (s:Bs):Lib.indexByte s 47=mX s:=by
 induction s with
 | nil=>rfl
 | cons c s ih=>
  rw[Lib.indexByte,ih];unfold mX aP;rw[List.findIdx_cons,List.length_cons];by_cases h:c=47
  ·subst h;simp
  ·have h2:(c == 47)=false:=by simpa using h
   rw[h2,dZ h];simp only[Bool.false_eq_true,if_false,cond_false];generalize s.findIdx (fun c=>decide (c=47))=k;by_cases hk:k<s.length
   ·have h3:(((k:Nat):Int) == -1)=false:=by
     rw[beq_eq_false_iff_ne];omega
    have h4:k+1<s.length+1:=om
    simp only[if_pos hk,if_pos h4,h3];simp
   ·have h4:¬ k+1<s.length+1:=om
    simp only[if_neg hk,if_neg h4];rfl
theorem Zi (s:Bs)(w:World):(Extern.BytealgIndexByte.indexByte #[sv s,.int .u8 47]).run prog w=.ok (.int .i64 (mX s)) w:=by
 have h:=Lib.run_indexByteString (P:=prog) ⟨s.toArray⟩ 47 w;rw[show (47:Int).toNat.toUInt8=47 from rfl,a2P] at h;exact h
theorem Zj (s:Bs)(w:World):(Extern.BytealgCount.count #[sv s,.int .u8 47]).run prog w=.ok (.int .i64 (s.count 47:Nat)) w:=
 Lib.run_countString (P:=prog) ⟨s.toArray⟩ 47 w
instance b7F {s:Bs}:Ans prog GL 447 [str s,.lit (j6 47)] True (int (mX s)):=⟨fun _=>by
 refine qE func447 rfl ntmps447 rfl (fun _ hs=>?_);repeat' first|refine Vz ?_|intro _
 apply yX (v:=int (mX s)) func454;kernel_rfl;exact rfl;kernel_rfl;kernel_rfl;exact rfl;exact rfl;exact rfl
 ·rintro ok w cs _ ⟨u1,us,rfl,h1,u2,us2,rfl,h2,rfl⟩;rw[RV0.lit h1,RV0.lit h2];exact⟨_,Zi s _,RVl rfl⟩
 repeat' first|refine Vz ?_|intro _
 refine d9 ?_;rfl⟩
instance b7E {s:Bs}:Ans prog GL 437 [str s,str [47]] True (int (mX s)):=⟨fun _=>by
 refine qE func437 rfl ntmps437 rfl (fun _ hs=>?_);repeat' first|refine Zz ?_|intro _
 refine o9 (fun h=>?_) (fun h=>?_)
 ·repeat' first|refine Zz ?_|intro _
  refine d9 ?_;rw[<- h];rfl
 have h1:([47]:Bs).length=1:=rfl;repeat' first|refine Yz ?_|intro _
 refine d9 ?_;rfl⟩
instance b7G {s:Bs}:Ans prog GL 406 [str s,str [47]] True (int (mX s)):=⟨fun _=>by
 refine qE func406 rfl ntmps406 rfl (fun _ hs=>?_);repeat' first|refine Vz ?_|intro _
 refine d9 ?_;rfl⟩
instance b8a {s:Bs}:Ans prog GL 353 [str s,str [47]] True (j3 (!iG s)):=⟨fun _=>by
 refine qE func353 rfl ntmps353 rfl (fun _ hs=>?_);repeat' first|refine Vz ?_|intro _
 refine d9 ?_;have h:decide (0<=mX s)=!iG s:=by
  unfold mX;by_cases h:aP s<s.length
  ·rw[if_pos h,Gv.1 h];exact dT om
  ·rw[if_neg h];have hn:iG s=true:=by
    cases hh:iG s
    ·exact absurd (Gv.2 hh) h
    ·rfl
   rw[hn];rfl
 show j3 _=_;rw[h]⟩
instance b7Z {s:Bs}:Ans prog GL 351 [str s,str [47]] True (int (s.count 47:Nat)):=⟨fun _=>by
 have h1:([47]:Bs).length=1:=rfl;refine qE func351 rfl ntmps351 rfl (fun _ hs=>?_);repeat' first|refine Yz ?_|intro _
 apply yX (v:=int (s.count 47:Nat)) func405;kernel_rfl;exact rfl;kernel_rfl;kernel_rfl;exact rfl;exact rfl;exact rfl
 ·rintro ok w cs _ ⟨u1,us,rfl,h1,u2,us2,rfl,h2,rfl⟩;rw[RV0.lit h1,RV0.lit h2];exact⟨_,Zj s _,RVl rfl⟩
 repeat' first|refine Zz ?_|intro _
 refine d9 ?_;rfl⟩
instance b7K {s p:Bs}:Ans prog GL 401 [str s,str p] True (j3 (decide (s.take p.length=p))):=⟨fun _=>by
 refine qE func401 rfl ntmps401 rfl (fun _ hs=>?_);repeat' first|refine Vz ?_|intro _
 refine Y5 (fun h=>?_) (fun h=>?_)
 ·repeat' first|refine Vz ?_|intro _
  refine Q7 0 p.length ?_;repeat' first|refine Vz ?_|intro _
  refine d9 ?_;rfl
 ·repeat' first|refine Zz ?_|intro _
  refine d9 ?_;have:¬ s.take p.length=p:=fun e=>by
   have h2:=congrArg List.length e;rw[List.length_take] at h2;omega
  rw[dZ this];rfl⟩
instance b7X {s p:Bs}:Ans prog GL 453 [str s,str p] True (.tup [str (if s.take p.length=p then s.drop p.length else s),j3 (decide (s.take p.length=p))]):=⟨fun _=>by
 refine qE func453 rfl ntmps453 rfl (fun _ hs=>?_);repeat' first|refine Vz ?_|intro _
 refine o9 (fun h=>?_) (fun h=>?_)
 ·repeat' first|refine Vz ?_|intro _
  refine d9 ?_;rw[if_neg h,dZ h];rfl
 ·have h':s.take p.length=p:=Classical.not_not.1 h;have hl:p.length<=s.length:=by
   have h2:=congrArg List.length h';rw[List.length_take] at h2;omega
  repeat' first|refine Vz ?_|intro _
  refine Q7 p.length s.length ?_;repeat' first|refine Vz ?_|intro _
  refine d9 ?_;rw[if_pos h',dT h',List.take_length];rfl⟩
instance b7Y {s p:Bs}:Ans prog GL 445 [str s,str p] True (.tup [str (if s.take p.length=p then s.drop p.length else s),j3 (decide (s.take p.length=p))]):=⟨fun _=>by
 refine qE func445 rfl ntmps445 rfl (fun _ hs=>?_);repeat' first|refine Vz ?_|intro _
 refine d9 ?_;rfl⟩
end Go.Proofs.YtocpacdnjbjjmaaGreatDoor
