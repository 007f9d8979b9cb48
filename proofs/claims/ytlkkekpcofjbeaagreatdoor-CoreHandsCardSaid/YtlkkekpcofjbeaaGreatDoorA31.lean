/- numbers of 256 bits, walked: bytes -/
import Derived.Test.YtlkkekpcofjbeaaGreatDoorA16
import Derived.Test.YtlkkekpcofjbeaaGreatDoorA25
import Derived.Test.YtlkkekpcofjbeaaGreatDoorA27
import Derived.Test.YtlkkekpcofjbeaaGreatDoorA28
import Derived.Test.YtlkkekpcofjbeaaGreatDoorA30
namespace Go.Proofs.YtlkkekpcofjbeaaGreatDoor
open Go Go.RowKit Tw Av
structure TxX where
 k:Int
 i:Bs
 o:Bs
 p:Bs
 q:Bs
 y:Bs
 e:Int
 h:Hdr
 m:Hsh
 x:Pkt
 a:Bs
 t:Int
 f:Prf
 g:Gp
abbrev txA (x:TxX):AV:=.agg 100 [int x.k,str x.i,str x.o,str x.p,str x.q,str x.y,int x.e,hdrA x.h,hA x.m,pktA x.x,str x.a,int x.t,prfA x.f,gpA x.g]
structure Rep where
 e:Int
 q:Int
 a:Bs
deriving DecidableEq
abbrev repA (r:Rep):AV:=.agg 3 [int r.e,int r.q,str r.a]
def rep0:Rep:=⟨0,0,[]⟩
def repE (e:Int):Rep:=⟨e,0,[]⟩
def clR (d:List Ent)(i:Bs):Cli:=rcdV (valE d (kyO [67] i))
def clB (d:List Ent)(i:Bs):Bool:=decide (rcdE (valE d (kyO [67] i))=0)
def enR (d:List Ent)(k i:Bs):EndX:=redV (valE d (kyO k i))
def enB (d:List Ent)(k i:Bs):Bool:=decide (redE (valE d (kyO k i))=0)
def nxR (d:List Ent)(i:Bs):Int:=if knE (valE d (kyO [78] i))=0 then knV (valE d (kyO [78] i)) else 1
def stE (d:List Ent)(i:Bs)(h t:Int):Int:=if clB d i=false then 12 else if actC (clR d i) t=false then 19 else if (findC (clR d i).l h).isSome=false then 18 else 0
def stR (d:List Ent)(i:Bs)(h t:Int):Sta:=if stE d i h t=0 then (findC (clR d i).l h).getD zeroS else zeroS
def prE (d:List Ent)(i:Bs)(h t:Int)(k v:Bs)(p:Prf):Int:=if stE d i h t=0/\holdsB (stR d i h t).r ⟨k,v⟩ p=false then 18 else stE d i h t
def goE (d:List Ent)(i:Bs)(h t:Int)(k:Bs)(g:Gp):Int:=if stE d i h t=0/\missB (stR d i h t).r k g=false then 18 else stE d i h t
def goR (d:List Ent)(i:Bs)(h t:Int)(k:Bs)(g:Gp):Sta:=if goE d i h t k g=0 then stR d i h t else zeroS
abbrev Out18:=List Ent × Rep
def failR (d:List Ent)(e:Int):Out18:=(d,repE e)
def tellR (d:List Ent)(r:List Ent × Int)(p:Rep):Out18:=if r.2=0 then (r.1,p) else failR d r.2
def putsR (d:List Ent)(k v:Bs):Out18:=tellR d (putR d k v) rep0
def fundR (d:List Ent)(x:Pkt):Out18:=if denB x.d=false\/0 < hopN x.d\/plainB x.g=false then failR d 1 else tellR d (mintR d x.g x.d x.a) rep0
def movR (d:List Ent)(x:Pkt):Out18:=if denB x.d=false\/plainB x.f=false\/plainB x.g=false then failR d 1 else tellR d (moveR d x.f x.g x.d x.a) rep0
def creR (d:List Ent)(x:TxX):Out18:=if partB x.i=false then failR d 1 else if clB d x.i=true then failR d 13 else if newE x.y x.e x.h≠0 then failR d (newE x.y x.e x.h) else putsR d (kyO [67] x.i) (cliB (newR x.y x.e x.h))
def updR (d:List Ent)(x:TxX)(t:Int):Out18:=if clB d x.i=false then failR d 12 else if updE (clR d x.i) x.h x.m t≠0 then failR d (updE (clR d x.i) x.h x.m t) else putsR d (kyO [67] x.i) (cliB (updC (clR d x.i) x.h x.m t))
def begR (d:List Ent)(x:TxX)(i k:Bs)(try':Bool)(t:Int):Out18:=
 if try'=false then (if (initE x.o x.q).2≠0 then failR d (initE x.o x.q).2 else putsR d (kyO k x.i) (enxB (initE x.o x.q).1))
 else if prE d i x.t t (kyO k x.p) (enxB ⟨1,x.q,x.o,[]⟩) x.f≠0 then failR d (prE d i x.t t (kyO k x.p) (enxB ⟨1,x.q,x.o,[]⟩) x.f)
 else if (tryE x.o x.p ⟨1,x.q,x.o,[]⟩).2≠0 then failR d (tryE x.o x.p ⟨1,x.q,x.o,[]⟩).2
 else putsR d (kyO k x.i) (enxB (tryE x.o x.p ⟨1,x.q,x.o,[]⟩).1)
def conR (d:List Ent)(x:TxX)(t:Int):Out18:=if partB x.i=false then failR d 1 else if enB d [75] x.i=true then failR d 13 else if clB d x.o=false then failR d 12 else begR d x x.o [75] (decide (x.k=6)) t
def opnR (d:List Ent)(x:TxX)(t:Int):Out18:=if partB x.i=false then failR d 1 else if enB d [72] x.i=true then failR d 13 else if enB d [75] x.o=false then failR d 12 else if (enR d [75] x.o).s≠3 then failR d 13 else begR d x (enR d [75] x.o).o [72] (decide (x.k=10)) t
def thrE (own:EndX)(i:Bs)(ack:Bool):EndX:=⟨if ack=true then 2 else 3,own.q,own.o,i⟩
def joiR (d:List Ent)(x:TxX)(own:EndX)(i k:Bs)(ack:Bool)(t:Int):Out18:=
 if prE d i x.t t (kyO k (if ack=true then x.p else own.p)) (enxB (thrE own x.i ack)) x.f≠0 then failR d (prE d i x.t t (kyO k (if ack=true then x.p else own.p)) (enxB (thrE own x.i ack)) x.f)
 else if (if ack=true then ackE own x.i x.p (thrE own x.i ack) else cnfE own x.i (thrE own x.i ack)).2≠0 then failR d (if ack=true then ackE own x.i x.p (thrE own x.i ack) else cnfE own x.i (thrE own x.i ack)).2
 else putsR d (kyO k x.i) (enxB (if ack=true then ackE own x.i x.p (thrE own x.i ack) else cnfE own x.i (thrE own x.i ack)).1)
def codR (d:List Ent)(x:TxX)(t:Int):Out18:=if enB d [75] x.i=false then failR d 12 else joiR d x (enR d [75] x.i) (enR d [75] x.i).o [75] (decide (x.k=7)) t
def opdR (d:List Ent)(x:TxX)(t:Int):Out18:=if enB d [72] x.i=false\/enB d [75] (enR d [72] x.i).o=false then failR d 12 else joiR d x (enR d [72] x.i) (enR d [75] (enR d [72] x.i).o).o [72] (decide (x.k=11)) t
def chaE (d:List Ent)(i:Bs)(asked:EndX->Bool):Int:=if enB d [72] i=false then 12 else if (enR d [72] i).s≠3\/asked (enR d [72] i)=false then 13 else 0
def chaK (d:List Ent)(i:Bs):Bool:=enB d [75] (enR d [72] i).o
def chaN (d:List Ent)(i:Bs):Bs:=(enR d [75] (enR d [72] i).o).o
def goes (d:List Ent)(x:Pkt):Pkt:={ x with q:=nxR d x.s,k:=(enR d [72] x.s).p }
def sndR (d:List Ent)(x:Pkt):Out18:=
 if chaE d x.s (fun _=>true)≠0 then failR d (chaE d x.s fun _=>true)
 else if chkP (goes d x)=false then failR d 1
 else if chaK d x.s=false\/clB d (chaN d x.s)=false then failR d 12
 else if lateP (goes d x) (latC (clR d (chaN d x.s)).l).h (latC (clR d (chaN d x.s)).l).t=true then failR d 21
 else tellR d (thenR (fun d=>sendR d (goes d x)) (thenR (fun y=>putR y (kyW [80] x.s (goes d x).q) (comP (goes d x))) (fun y=>putR y (kyO [78] x.s) (tlvI 110 ((goes d x).q + 1)))) d) ⟨0,(goes d x).q,[]⟩
def ackR (d:List Ent)(x:Pkt):Bs:=if (recvR d x).2=0 then [43] else failB (recvR d x).2
def rcvR (d:List Ent)(x:TxX)(h t:Int):Out18:=
 if chkP x.x=false then failR d 1
 else if chaE d x.x.k (fun c=>decide (c.p=x.x.s))≠0 then failR d (chaE d x.x.k fun c=>decide (c.p=x.x.s))
 else if lateP x.x h t=true then failR d 21
 else if (gO d (kyW [71] x.x.k x.x.q)).isSome=true then failR d 20
 else if chaK d x.x.k=false then failR d 12
 else if prE d (chaN d x.x.k) x.t t (kyW [80] x.x.s x.x.q) (comP x.x) x.f≠0 then failR d (prE d (chaN d x.x.k) x.t t (kyW [80] x.x.s x.x.q) (comP x.x) x.f)
 else tellR d (putR (if (recvR d x.x).2=0 then (recvR d x.x).1 else d) (kyW [71] x.x.k x.x.q) (rcpB (ackR d x.x))) ⟨0,0,ackR d x.x⟩
def endR (d:List Ent)(x:Pkt)(b:Bool)(e:Int):Out18:=
 if chaE d x.s (fun c=>decide (c.p=x.k))≠0 then failR d (chaE d x.s fun c=>decide (c.p=x.k))
 else if gO d (kyW [80] x.s x.q)≠some (comP x)\/chaK d x.s=false then failR d 12
 else if e≠0 then failR d e
 else if b=true/\(backR d x).2≠0 then failR d (backR d x).2
 else (drpL (if b=true then (backR d x).1 else d) (kyW [80] x.s x.q),rep0)
def acksR (d:List Ent)(x:TxX)(t:Int):Out18:=if chkP x.x=false\/ackIs x.a=false then failR d 1 else endR d x.x (decide (ackV x.a≠0)) (prE d (chaN d x.x.s) x.t t (kyW [71] x.x.k x.x.q) (rcpB x.a) x.f)
def timE (d:List Ent)(x:TxX)(t:Int):Int:=if goE d (chaN d x.x.s) x.t t (kyW [71] x.x.k x.x.q) x.g=0/\lateP x.x (goR d (chaN d x.x.s) x.t t (kyW [71] x.x.k x.x.q) x.g).h (goR d (chaN d x.x.s) x.t t (kyW [71] x.x.k x.x.q) x.g).t=false then 21 else goE d (chaN d x.x.s) x.t t (kyW [71] x.x.k x.x.q) x.g
def timR (d:List Ent)(x:TxX)(t:Int):Out18:=if chkP x.x=false then failR d 1 else endR d x.x true (timE d x t)
def doR (d:List Ent)(x:TxX)(h t:Int):Out18:=
 if x.k=1 then fundR d x.x else if x.k=2 then movR d x.x else if x.k=3 then creR d x else if x.k=4 then updR d x t
 else if x.k=5\/x.k=6 then conR d x t else if x.k=7\/x.k=8 then codR d x t else if x.k=9\/x.k=10 then opnR d x t else if x.k=11\/x.k=12 then opdR d x t
 else if x.k=13 then sndR d x.x else if x.k=14 then rcvR d x h t else if x.k=15 then acksR d x t else if x.k=16 then timR d x t else failR d 1
end Go.Proofs.YtlkkekpcofjbeaaGreatDoor

namespace Av
open Go Go.RowKit Tw
theorem eqItems_int {P:Program}{e:TypeId}{k:IntKind}(he:P.underlying e=some (.int k))(w:World)(d:Nat):∀ (n o:Nat) (la lb:List Int),la.length=o + n->lb.length=o + n ->
  (Op.eqItems (d + 1) e 1 (la.map (Value.int k)).toArray (lb.map (Value.int k)).toArray (List.range' o n)).run P w=.ok (decide (la.drop o=lb.drop o)) w
 | 0,o,la,lb,h1,h2=>by
  rw [List.drop_of_length_le (l:=la) (by omega),List.drop_of_length_le (l:=lb) (by omega)]
  simp [Op.eqItems]
 | n + 1,o,la,lb,h1,h2=>by
  have hp:P.plainKey e=true:=by simp [Program.plainKey,he]
  have hla:o < la.length:=by omega
  have hlb:o < lb.length:=by omega
  have ea:(la.map (Value.int k)).toArray[o * 1]?=some (Value.int k la[o]):=by simp [hla]
  have eb:(lb.map (Value.int k)).toArray[o * 1]?=some (Value.int k lb[o]):=by simp [hlb]
  have hq:(Op.equalIn (d + 1) e (Value.int k la[o]) (Value.int k lb[o])).run P w=.ok (decide (la[o]=lb[o])) w:=by
   rw [run_equalIn_int _ d e _ _ _ _ he]
   rfl
  rw [List.range'_succ]
  simp only [Op.eqItems,Sem.run_bind,run_part_plain w hp ea,run_part_plain w hp eb,Result.andThen_ok,hq]
  rw [List.drop_eq_getElem_cons hla,List.drop_eq_getElem_cons hlb]
  by_cases h:la[o]=lb[o]
  ·simp only [h,decide_true,Bool.not_true,Bool.false_eq_true,if_false,eqItems_int he w d n (o + 1) la lb (by omega) (by omega),List.cons.injEq,true_and]
  ·have hf:decide (la[o]::la.drop (o + 1)=lb[o]::lb.drop (o + 1))=false:=by
    rw [decide_eq_false_iff_not,List.cons.injEq]
    exact fun e=>h e.1
   rw [hf]
   simp [h]
theorem four_val {ok:Ok}{w:World}{k:IntKind}{a b c d:Int}{v:Value}(hr:RV0 ok w (.agg 4 [.lit (.int k a),.lit (.int k b),.lit (.int k c),.lit (.int k d)]) v):v=.agg ([a,b,c,d].map (Value.int k)).toArray:=by
 obtain⟨cs,rfl,h⟩:=agg_run (RV.of0 hr)
 rw [RC,RCs] at h
 obtain⟨_,c1,d1,rfl,g1,h⟩:=h
 rw [RCs] at h
 obtain⟨c2,d2,rfl,g2,h⟩:=h
 rw [RCs] at h
 obtain⟨c3,d3,rfl,g3,h⟩:=h
 rw [RCs] at h
 obtain⟨c4,d4,rfl,g4,h⟩:=h
 rw [RCs] at h
 subst h
 rw [RC] at g1 g2 g3 g4
 rw [g1.1,g2.1,g3.1,g4.1]
 rfl
instance {P:Program}{T e:TypeId}{k:IntKind}[t:TyA P T 4 e 1][te:TyI P e k]{a b c d a' b' c' d':Int}:Eqv P T (.agg 4 [.lit (.int k a),.lit (.int k b),.lit (.int k c),.lit (.int k d)]) (.agg 4 [.lit (.int k a'),.lit (.int k b'),.lit (.int k c'),.lit (.int k d')]) 1 (decide ([a,b,c,d]=[a',b',c',d'])):=⟨fun {ok w va vb} d hd ha hb=>by
 rw [four_val ha,four_val hb]
 obtain⟨i,hi,hc⟩:=info_of_sz t.sz
 obtain⟨d,rfl⟩:∃ d',d=d' + 1:=⟨d - 1,by omega⟩
 rw [run_equalIn_array w (d + 1) _ _ t.out hi,hc,List.range_eq_range',eqItems_int te.out w d 4 0 _ _ rfl rfl]
 rfl⟩
theorem wd_eq (a b:Wd):decide ([((lm a.n 0:Nat):Int),(lm a.n 1:Nat),(lm a.n 2:Nat),(lm a.n 3:Nat)]=[((lm b.n 0:Nat):Int),(lm b.n 1:Nat),(lm b.n 2:Nat),(lm b.n 3:Nat)])=decide (a=b):=by
 rw [decide_eq_decide]
 constructor
 ·intro h
  simp only [List.cons.injEq] at h
  exact Wd.ext' (of_lms a.lt b.lt (by omega) (by omega) (by omega) (by omega))
 ·rintro rfl
  rfl
theorem wd_z (a:Wd):decide ([((lm a.n 0:Nat):Int),(lm a.n 1:Nat),(lm a.n 2:Nat),(lm a.n 3:Nat)]=[0,0,0,0])=decide (a.n=0):=by
 rw [decide_eq_decide]
 constructor
 ·intro h
  simp only [List.cons.injEq] at h
  exact of_lms a.lt wZ.lt (by rw [lm_z];omega) (by rw [lm_z];omega) (by rw [lm_z];omega) (by rw [lm_z];omega)
 ·intro h
  rw [h,lm_z,lm_z,lm_z,lm_z]
  rfl
def mixN (n m i:Nat):List AV:=(List.range 4).map fun j=>u6 (lm (if j < i then n else m) j)
instance {n m i:Nat}:Siz (mixN n m i) 1:=by unfold mixN;infer_instance
theorem mix_len (n m i:Nat):(mixN n m i).length=4:=rfl
theorem mix_get {n m i:Nat}(h:i < 4):(mixN n m i)[i]?=some (u6 (lm m i)):=by
 rcases i with _|_|_|_|i <;> first|rfl|omega
theorem mix_set {n m i:Nat}(h:i < 4):(mixN n m i).set i (u6 (lm n i))=mixN n m (i + 1):=by
 rcases i with _|_|_|_|i <;> first|rfl|omega
def mixF (X Y:Nat->Nat)(i:Nat):List AV:=(List.range 4).map fun j=>u6 (if j < i then X j else Y j)
instance {X Y:Nat->Nat}{i:Nat}:Siz (mixF X Y i) 1:=by unfold mixF;infer_instance
theorem mixF_len (X Y:Nat->Nat)(i:Nat):(mixF X Y i).length=4:=rfl
theorem mixF_0 (X Y:Nat->Nat):mixF X Y 0=[u6 (Y 0),u6 (Y 1),u6 (Y 2),u6 (Y 3)]:=rfl
theorem mixF_4 (X Y:Nat->Nat):mixF X Y 4=[u6 (X 0),u6 (X 1),u6 (X 2),u6 (X 3)]:=rfl
theorem mixF_get {X Y:Nat->Nat}{i:Nat}(h:i < 4):(mixF X Y i)[i]?=some (u6 (Y i)):=by
 rcases i with _|_|_|_|i <;> first|rfl|omega
theorem mixF_set {X Y:Nat->Nat}{i:Nat}(h:i < 4):(mixF X Y i).set i (u6 (X i))=mixF X Y (i + 1):=by
 rcases i with _|_|_|_|i <;> first|rfl|omega
theorem mixF_wid {X Y:Nat->Nat}(h:∀ i,X i < 18446744073709551616):∃ n:Nat,n < 115792089237316195423570985008687907853269984665640564039457584007913129639936/\AV.agg 4 (mixF X Y 4)=widN n:=by
 obtain⟨h1,h2,h3,h4,h5⟩:=wj_lm (h 0) (h 1) (h 2) (h 3)
 refine⟨_,h1,?_⟩
 rw [mixF_4]
 unfold widN
 rw [h2,h3,h4,h5]
theorem wid_get {n i:Nat}(h:i < 4):[u6 (lm n 0),u6 (lm n 1),u6 (lm n 2),u6 (lm n 3)][i]?=some (u6 (lm n i)):=by
 rcases i with _|_|_|_|i <;> first|rfl|omega
def crL (a b:Nat):Nat->Nat
 | 0=>0
 | i + 1=>(lm a i + lm b i + crL a b i) / 18446744073709551616
def boL (a b:Nat):Nat->Nat
 | 0=>0
 | i + 1=>bor (lm a i) (lm b i) (boL a b i)
theorem cr_all (a b:Wd):(∀ i,i < 4->crL a.n b.n i<=1/\lm (a.n + b.n) i=(lm a.n i + lm b.n i + crL a.n b.n i) % 18446744073709551616)/\crL a.n b.n 4<=1/\(crL a.n b.n 4=0↔wIs (a.n + b.n)=true):=by
 obtain⟨c0,c1,c2,c3,rfl,rfl,rfl,rfl,h0,h1,h2,h3,h4,g0,g1,g2,g3⟩:=add_lm a b
 refine⟨fun i hi=>?_,h3,by rw [wIs,decide_eq_true_iff];exact h4⟩
 rcases i with _|_|_|_|i
 ·exact⟨Nat.zero_le _,g0⟩
 ·exact⟨h0,g1⟩
 ·exact⟨h1,g2⟩
 ·exact⟨h2,g3⟩
 ·omega
theorem bo_all (a b:Wd):(∀ i,i < 4->boL a.n b.n i<=1)/\boL a.n b.n 4<=1/\(boL a.n b.n 4=0↔b.n<=a.n)/\(b.n<=a.n->∀ i,i < 4->lm (a.n - b.n) i=(lm a.n i + 18446744073709551616 - lm b.n i - boL a.n b.n i) % 18446744073709551616):=by
 obtain⟨c0,c1,c2,c3,rfl,rfl,rfl,rfl,h0,h1,h2,h3,h4,h5⟩:=sub_lm a b
 refine⟨fun i hi=>?_,h3,h4,fun hle i hi=>?_⟩
 ·rcases i with _|_|_|_|i
  ·exact Nat.zero_le _
  ·exact h0
  ·exact h1
  ·exact h2
  ·omega
 ·obtain⟨g0,g1,g2,g3⟩:=h5 hle
  rcases i with _|_|_|_|i
  ·exact g0
  ·exact g1
  ·exact g2
  ·exact g3
  ·omega
end Av
namespace Go.Proofs.YtlkkekpcofjbeaaGreatDoor
open Go Go.RowKit Tw Av
instance fnWZero {a:Wd}:Ans Tryz.prog GL 191 [widA a] True (boo (decide (a.n=0))):=⟨fun _=>by
 refine qE Tryz.func191 rfl Tryz.ntmps191 rfl (fun _ hs=>?_)
 repeat' (first|refine W ?_|refine op3 ?_|refine ob5 ?_|refine opE ?_|refine obE ?_|refine ob2 (fun _=>?_)|intro _)
 refine reE ?_
 show boo _=_
 rw [wd_z]⟩
instance fnWRight {n:Nat}{c:Nat}:Ans Tryz.prog GL 224 [widN n,u6 c] True (.tup [widN (if c=0 then n else 0),boo (decide (c=0))]):=⟨fun _=>by
 refine qE Tryz.func224 rfl Tryz.ntmps224 rfl (fun _ hs=>?_)
 repeat' first|refine Vz ?_|intro _
 refine ac_cond (fun h=>?_) (fun h=>?_)
 ·repeat' first|refine Vz ?_|intro _
  refine reE ?_
  have h0:¬ c=0:=by omega
  rw [if_neg h0,dZ h0]
  rfl
 ·repeat' first|refine Vz ?_|intro _
  refine reE ?_
  have h0:c=0:=by omega
  rw [if_pos h0,dT h0]
  rfl⟩
section
variable {N:Nat} {ops:Array Oper} {Q:Exit->Act->World->Prop} {rest:List Oper} {s:Av.Base} {e:Av.Env} {m:List Av.Piece} {d:Nat} {ty:TypeId} {pos:String} {af:Array Edge}
theorem al_add64 {x y c:Nat}{xs:List Operand}{ts:Array TypeId}(hc:c<=1)(h:AL Tryz.prog N ops Q s rest ((d,.tup [u6 ((x + y + c) % 18446744073709551616),u6 ((x + y + c) / 18446744073709551616)])::e) m)(hx:evs e xs=some [u6 x,u6 y,u6 c]:=by exact rfl)(hd:Nat.blt d N=true:=by exact rfl):AL Tryz.prog N ops Q s (⟨some d,.call ⟨.value (.func 223),xs.toArray,ts⟩,ty,pos,af,none⟩::rest) e m:=by
 apply al_ext (en := (Extern.MathBitsCarry.rows.getD 0 ("", fun _ => pure undef)).2) (v := .tup [u6 ((x + y + c) % 18446744073709551616), u6 ((x + y + c) / 18446744073709551616)]) Tryz.func223; kernel_rfl; exact rfl; kernel_rfl; kernel_rfl; exact hx; exact rfl; exact hd
 ·rintro ok w cs _ ⟨u1,us,rfl,h1,u2,us2,rfl,h2,u3,us3,rfl,h3,rfl⟩
  rw [RV0.lit h1,RV0.lit h2,RV0.lit h3]
  rcases (by omega:c=0\/c=1) with rfl|rfl
  ·exact⟨_,rfl,⟨_,rfl,_,_,rfl,RV0.of_lit rfl,_,_,rfl,RV0.of_lit rfl,rfl⟩⟩
  ·exact⟨_,rfl,⟨_,rfl,_,_,rfl,RV0.of_lit rfl,_,_,rfl,RV0.of_lit rfl,rfl⟩⟩
 ·exact h
theorem al_sub64 {x y c:Nat}{xs:List Operand}{ts:Array TypeId}(hc:c<=1)(h:AL Tryz.prog N ops Q s rest ((d,.tup [u6 ((x + 18446744073709551616 - y - c) % 18446744073709551616),u6 (bor x y c)])::e) m)(hx:evs e xs=some [u6 x,u6 y,u6 c]:=by exact rfl)(hd:Nat.blt d N=true:=by exact rfl):AL Tryz.prog N ops Q s (⟨some d,.call ⟨.value (.func 262),xs.toArray,ts⟩,ty,pos,af,none⟩::rest) e m:=by
 apply al_ext (en := (Extern.MathBitsCarry.rows.getD 1 ("", fun _ => pure undef)).2) (v := .tup [u6 ((x + 18446744073709551616 - y - c) % 18446744073709551616), u6 (bor x y c)]) Tryz.func262; kernel_rfl; exact rfl; kernel_rfl; kernel_rfl; exact hx; exact rfl; exact hd
 ·rintro ok w cs _ ⟨u1,us,rfl,h1,u2,us2,rfl,h2,u3,us3,rfl,h3,rfl⟩
  rw [RV0.lit h1,RV0.lit h2,RV0.lit h3]
  rcases (by omega:c=0\/c=1) with rfl|rfl
  ·exact⟨_,rfl,⟨_,rfl,_,_,rfl,RV0.of_lit rfl,_,_,rfl,RV0.of_lit rfl,rfl⟩⟩
  ·exact⟨_,rfl,⟨_,rfl,_,_,rfl,RV0.of_lit rfl,_,_,rfl,RV0.of_lit rfl,rfl⟩⟩
 ·exact h
end
instance fnWAdd {a b:Wd}:Ans Tryz.prog GL 166 [widA a,widA b] True (.tup [widA (wOf (a.n + b.n)),boo (wIs (a.n + b.n))]):=⟨fun _=>by
 obtain⟨hcr,h4,h40⟩:=cr_all a b
 refine qE Tryz.func166 rfl Tryz.ntmps166 rfl (fun _ hs=>?_)
 repeat' first|refine Vz ?_|intro _
 rename_i g2 g3 g4
 refine ac_asV (g:=g2) (v':=.agg 4 (mixN (a.n + b.n) a.n 0)) (fun ok w cs h=>h) ?_
 refine ac_loop (α:=Nat) (fun i=>[(2,ptr g2),(3,ptr g3),(4,ptr g4),(6,u6 (crL a.n b.n i)),(8,int i)])
   (fun i=>[.var g4 45 (widN 0),.var g3 45 (widA b),.var g2 45 (.agg 4 (mixN (a.n + b.n) a.n i))]) (fun i=>i<=4) (fun i=>4 - i) 0 ⟨rfl,rfl,rfl,rfl,rfl,trivial⟩ slr (Nat.zero_le _) ?_
 intro i hi
 repeat' first|refine Vz ?_|intro _
 refine ac_cond (fun hlt=>?_) (fun hlt=>?_)
 ·have hl:i < 4:=by omega
  obtain⟨c1,c2⟩:=hcr i hl
  have hln:=mix_len (a.n + b.n) a.n i
  repeat' first|refine Vz ?_|intro _
  apply obl_read [];exact rfl;exact rfl;kernel_rfl;intro _ _
  refine al_idxA i ?_
  exact al_nil (ae_got rfl rfl)
  apply obl_read [2];exact rfl;exact rfl;kernel_rfl;intro _ _
  refine al_loadE (mix_get hl) ?_
  exact al_nil (ae_got rfl rfl)
  repeat' first|refine Vz ?_|intro _
  apply obl_read [];exact rfl;exact rfl;kernel_rfl;intro _ _
  refine al_idxA i ?_
  exact al_nil (ae_got rfl rfl)
  apply obl_read [1];exact rfl;exact rfl;kernel_rfl;intro _ _
  refine al_loadE (wid_get hl) ?_
  exact al_nil (ae_got rfl rfl)
  repeat' first|refine Vz ?_|intro _
  apply obl_read [];exact rfl;exact rfl;kernel_rfl;intro _ _
  refine al_add64 c1 ?_
  exact al_nil (ae_got rfl rfl)
  repeat' first|refine Vz ?_|intro _
  apply obl_read [];exact rfl;exact rfl;kernel_rfl;intro _ _
  refine al_idxA i ?_
  exact al_nil (ae_got rfl rfl)
  apply obl_writeN [2];exact rfl;exact rfl;kernel_rfl
  intro _ _
  refine al_storeE (j:=i) (by rw [hln];exact hl) ?_
  exact al_nil (ae_gotN rfl)
  exact rfl
  exact rfl
  rw [<- c2,mix_set hl]
  repeat' first|refine Vz ?_|intro _
  refine ae_round (i + 1) ⟨rfl,rfl,rfl,rfl,rfl,trivial⟩ ?_ hl (by omega)
  exact sbl
 ·obtain rfl:i=4:=by omega
  refine ac_asV (g:=g2) (v':=widN (a.n + b.n)) (fun ok w cs h=>h) ?_
  repeat' first|refine Vz ?_|intro _
  refine reE ?_
  by_cases h0:crL a.n b.n 4=0
  ·have h1:=h40.1 h0
   rw [if_pos h0,h1,dT h0]
   show AV.tup [widN _,_]=.tup [widN _,_]
   rw [wOf_n (of_decide_eq_true h1)]
  ·have h1:wIs (a.n + b.n)=false:=by
    cases h:wIs (a.n + b.n)
    ·rfl
    ·exact absurd (h40.2 h) h0
   rw [if_neg h0,h1,dZ h0]
   show AV.tup [widN _,_]=.tup [widN _,_]
   rw [wOf_big (of_decide_eq_false h1)]
   rfl⟩
instance fnWSub {a b:Wd}:Ans Tryz.prog GL 229 [widA a,widA b] True (.tup [widA (wOf (a.n - b.n)),boo (decide (b.n<=a.n))]):=⟨fun _=>by
 obtain⟨hbo,h4,h40,hlm⟩:=bo_all a b
 refine qE Tryz.func229 rfl Tryz.ntmps229 rfl (fun _ hs=>?_)
 repeat' first|refine Vz ?_|intro _
 rename_i g2 g3 g4
 generalize hX:(fun i=>(lm a.n i + 18446744073709551616 - lm b.n i - boL a.n b.n i) % 18446744073709551616)=X at *
 refine ac_asV (g:=g2) (v':=.agg 4 (mixF X (lm a.n) 0)) (fun ok w cs h=>by rw [mixF_0];exact h) ?_
 refine ac_loop (α:=Nat) (fun i=>[(2,ptr g2),(3,ptr g3),(4,ptr g4),(6,u6 (boL a.n b.n i)),(8,int i)])
   (fun i=>[.var g4 45 (widN 0),.var g3 45 (widA b),.var g2 45 (.agg 4 (mixF X (lm a.n) i))]) (fun i=>i<=4) (fun i=>4 - i) 0 ⟨rfl,rfl,rfl,rfl,rfl,trivial⟩ slr (Nat.zero_le _) ?_
 intro i hi
 repeat' first|refine Vz ?_|intro _
 refine ac_cond (fun hlt=>?_) (fun hlt=>?_)
 ·have hl:i < 4:=by omega
  have c1:=hbo i hl
  have hln:=mixF_len X (lm a.n) i
  repeat' first|refine Vz ?_|intro _
  apply obl_read [];exact rfl;exact rfl;kernel_rfl;intro _ _
  refine al_idxA i ?_
  exact al_nil (ae_got rfl rfl)
  apply obl_read [2];exact rfl;exact rfl;kernel_rfl;intro _ _
  refine al_loadE (mixF_get hl) ?_
  exact al_nil (ae_got rfl rfl)
  repeat' first|refine Vz ?_|intro _
  apply obl_read [];exact rfl;exact rfl;kernel_rfl;intro _ _
  refine al_idxA i ?_
  exact al_nil (ae_got rfl rfl)
  apply obl_read [1];exact rfl;exact rfl;kernel_rfl;intro _ _
  refine al_loadE (wid_get hl) ?_
  exact al_nil (ae_got rfl rfl)
  repeat' first|refine Vz ?_|intro _
  apply obl_read [];exact rfl;exact rfl;kernel_rfl;intro _ _
  refine al_sub64 c1 ?_
  exact al_nil (ae_got rfl rfl)
  repeat' first|refine Vz ?_|intro _
  apply obl_read [];exact rfl;exact rfl;kernel_rfl;intro _ _
  refine al_idxA i ?_
  exact al_nil (ae_got rfl rfl)
  apply obl_writeN [2];exact rfl;exact rfl;kernel_rfl
  intro _ _
  refine al_storeE (j:=i) (by rw [hln];exact hl) ?_
  exact al_nil (ae_gotN rfl)
  exact rfl
  exact rfl
  rw [show (lm a.n i + 18446744073709551616 - lm b.n i - boL a.n b.n i) % 18446744073709551616=X i by rw [<- hX],mixF_set hl]
  repeat' first|refine Vz ?_|intro _
  refine ae_round (i + 1) ⟨rfl,rfl,rfl,rfl,rfl,trivial⟩ ?_ hl (by omega)
  exact sbl
 ·obtain rfl:i=4:=by omega
  by_cases h0:boL a.n b.n 4=0
  ·have h1:=h40.1 h0
   have h2:=hlm h1
   have e:AV.agg 4 (mixF X (lm a.n) 4)=widN (a.n - b.n):=by
    have hX':∀ i,i < 4->X i=lm (a.n - b.n) i:=fun i hi=>by rw [h2 i hi,<- hX]
    rw [mixF_4,hX' 0 (by omega),hX' 1 (by omega),hX' 2 (by omega),hX' 3 (by omega)]
   rw [e]
   repeat' first|refine Vz ?_|intro _
   refine reE ?_
   rw [if_pos h0,dT h0,dT h1]
   show AV.tup [widN _,_]=.tup [widN _,_]
   rw [wOf_n (Nat.lt_of_le_of_lt (Nat.sub_le _ _) a.lt)]
  ·have h1:¬ b.n<=a.n:=fun h=>h0 (h40.2 h)
   obtain⟨n,hn,e⟩:=mixF_wid (X:=X) (Y:=lm a.n) (by rw [<- hX];exact fun i=>Nat.mod_lt _ (by decide))
   rw [e]
   repeat' first|refine Vz ?_|intro _
   refine reE ?_
   rw [if_neg h0,dZ h0,dZ h1]
   show AV.tup [widN _,_]=.tup [widN _,_]
   rw [show a.n - b.n=0 by omega]
   rfl⟩
end Go.Proofs.YtlkkekpcofjbeaaGreatDoor

namespace Av
open Go Go.RowKit Tw
section
variable {P:Program} {N:Nat} {ops:Array Oper} {Q:Exit->Act->World->Prop} {rest:List Oper} {s:Av.Base} {e:Av.Env} {m:List Av.Piece} {d:Nat} {ty:TypeId} {pos:String} {af:Array Edge}
theorem pow_8 (k:Nat):2 ^ (8 * k)=256 ^ k:=by rw [Nat.pow_mul]
theorem al_shrB {T yT:TypeId}{yk:IntKind}{x y:Operand}{a:Nat}{b:Int}(k:Nat)(h:AL P N ops Q s rest ((d,u6 (a / 256 ^ k))::e) m)(hx:ev e x=some (u6 a):=by exact rfl)(hy:ev e y=some (.lit (.int yk b)):=by exact rfl)(hb:b=((8 * k:Nat):Int):=by omega)(hk:k<=8:=by omega)(hd:Nat.blt d N=true:=by exact rfl):AL P N ops Q s (⟨some d,.binOp .shr T x y yT,ty,pos,af,none⟩::rest) e m:=by
 refine al_shrC (n:=8 * k) ?_ hx hy (by rw [hb];rfl) (Nat.ble_eq_true_of_le (show 8 * k<=64 by omega)) hd
 rw [pow_8,<- Int.natCast_ediv]
 exact h
theorem al_shlB {T yT:TypeId}{yk:IntKind}{x y:Operand}{a:Nat}{b:Int}(k:Nat)(h:AL P N ops Q s rest ((d,u6 (256 ^ k * a))::e) m)(hx:ev e x=some (u6 a):=by exact rfl)(hy:ev e y=some (.lit (.int yk b)):=by exact rfl)(hb:b=((8 * k:Nat):Int):=by omega)(ha:a < 256:=by omega)(hk:k<=7:=by omega)(hd:Nat.blt d N=true:=by exact rfl):AL P N ops Q s (⟨some d,.binOp .shl T x y yT,ty,pos,af,none⟩::rest) e m:=
 al_shift rfl hx hy (fun w=>by
  subst hb
  have h2:min (8 * k) IntKind.u64.bits=8 * k:=by show min (8 * k) 64=_;omega
  have h3:256 ^ k * a < 18446744073709551616:=by
   have h5:256 ^ k<=72057594037927936:=Nat.pow_le_pow_right (n:=256) (by decide) hk
   have h6:256 ^ k * a<=72057594037927936 * 255:=Nat.mul_le_mul h5 (by omega)
   omega
  have e1:((a:Int) * 2 ^ (8 * k))=((256 ^ k * a:Nat):Int):=by
   rw [show ((2:Int) ^ (8 * k))=((2 ^ (8 * k):Nat):Int) by simp,pow_8,Nat.mul_comm]
   simp
  have h4:¬ (((8 * k:Nat):Int) < 0):=by omega
  simp only [Op.shift,Int.toNat_natCast,h2,e1,h4,if_false]
  show Result.ok (Value.int .u64 (IntKind.u64.wrap ((256 ^ k * a:Nat):Int))) w=_
  rw [wrap_u64 _ h3]) (.inl rfl) hd h
theorem or_runU {a c:Nat}(ha:a < 18446744073709551616)(hc:c < 18446744073709551616)(h:(a ||| c) < 18446744073709551616)(P:Program)(w:World):(Op.intBits .or .u64 (a:Int) (c:Int)).run P w=.ok (.int .u64 ((a ||| c:Nat):Int)) w:=by
 have h2:(BitVec.ofInt 64 (a:Int) ||| BitVec.ofInt 64 (c:Int)).toNat=a ||| c:=by
  rw [BitVec.toNat_or,BitVec.ofInt_natCast,BitVec.ofInt_natCast,BitVec.toNat_ofNat,BitVec.toNat_ofNat,Nat.mod_eq_of_lt ha,Nat.mod_eq_of_lt hc]
 show Result.ok (Value.int .u64 (IntKind.u64.wrap ((BitVec.ofInt 64 (a:Int) ||| BitVec.ofInt 64 (c:Int)).toNat:Int))) w=_
 rw [h2,wrap_u64 _ h]
theorem al_orP {T yT:TypeId}{x y:Operand}{a c r:Nat}(h:AL P N ops Q s rest ((d,u6 (a + 256 ^ r * c))::e) m)(hx:ev e x=some (u6 a):=by exact rfl)(hy:ev e y=some (u6 (256 ^ r * c)):=by exact rfl)(ha:a < 256 ^ r)(hc:c < 256)(hr:r<=7)(hd:Nat.blt d N=true:=by exact rfl):AL P N ops Q s (⟨some d,.binOp .or T x y yT,ty,pos,af,none⟩::rest) e m:=by
 have h0:256 ^ r<=72057594037927936:=Nat.pow_le_pow_right (n:=256) (by decide) hr
 have h1:256 ^ r * c + 256 ^ r<=72057594037927936 * 256:=by
  rw [<- Nat.mul_succ]
  exact Nat.mul_le_mul h0 (by omega)
 have h2:=or_put (d:=c) ha
 generalize 256 ^ r * c=X at *
 generalize 256 ^ r=R at *
 rw [<- h2] at h
 exact al_bits rfl hx hy (fun w=>or_runU (by omega) (by omega) (by omega) P w) (.inr (.inl rfl)) hd h
theorem and_runU {a:Nat}(ha:a < 18446744073709551616)(P:Program)(w:World):(Op.intBits .and .u64 (a:Int) ((255:Nat):Int)).run P w=.ok (.int .u64 ((a % 256:Nat):Int)) w:=by
 have h2:(BitVec.ofInt 64 (a:Int) &&& BitVec.ofInt 64 ((255:Nat):Int)).toNat=a % 256:=by
  rw [BitVec.toNat_and,BitVec.ofInt_natCast,BitVec.ofInt_natCast,BitVec.toNat_ofNat,BitVec.toNat_ofNat,Nat.mod_eq_of_lt ha,Nat.mod_eq_of_lt (show 255 < 2 ^ 64 by decide)]
  exact Nat.and_two_pow_sub_one_eq_mod a 8
 show Result.ok (Value.int .u64 (IntKind.u64.wrap ((BitVec.ofInt 64 (a:Int) &&& BitVec.ofInt 64 ((255:Nat):Int)).toNat:Int))) w=_
 rw [h2,wrap_u64 _ (by omega)]
theorem al_and255 {T yT:TypeId}{x y:Operand}{a:Nat}(ha:a < 18446744073709551616)(h:AL P N ops Q s rest ((d,u6 (a % 256))::e) m)(hx:ev e x=some (u6 a):=by exact rfl)(hy:ev e y=some (.lit (.int .u64 255)):=by exact rfl)(hd:Nat.blt d N=true:=by exact rfl):AL P N ops Q s (⟨some d,.binOp .and T x y yT,ty,pos,af,none⟩::rest) e m:=
 al_bits rfl hx hy (fun w=>and_runU ha P w) (.inl rfl) hd h
theorem u8_wrap (n:Nat):AV.lit (.int .u8 (IntKind.u8.wrap (n:Int)))=.lit (u8v (UInt8.ofNat n)):=by
 unfold u8v
 rw [IntKind.wrap_u8,UInt8.toNat_ofNat']
 simp
theorem beB_at {n j:Nat}(h:j < 32):(beB n)[j]?=some (UInt8.ofNat (dg n (31 - j))):=by
 unfold beB
 rw [List.getElem?_reverse (by rw [dgs_len];exact h),dgs_len,dgs_at (by omega)]
theorem beB_take {n j:Nat}(h:j < 32):(beB n).take (j + 1)=(beB n).take j++[UInt8.ofNat (dg n (31 - j))]:=by
 rw [List.take_add_one,beB_at h]
 rfl
end
end Av
namespace Go.Proofs.YtlkkekpcofjbeaaGreatDoor
open Go Go.RowKit Tw Av
set_option maxHeartbeats 1000000 in
instance fnWBytes {a:Wd}:Ans Tryz.prog GL 227 [widA a] True (str (beB a.n)):=⟨fun _=>by
 have hbl:=beB_len a.n
 refine qE Tryz.func227 rfl Tryz.ntmps227 rfl (fun _ hs=>?_)
 repeat' first|refine Vz ?_|intro _
 rename_i g1
 refine ac_as 3 (Imp.nil (k:=1)) ?_
 refine ac_st (fun ok w h=>h.full 5 1 none 0) ?_
 refine ac_loop (α:=Nat × Value) (fun q=>[(1,ptr g1),(3,.sl 1 (((beB a.n).take (8 * q.1)).map u8A) (some q.2)),(4,int (3 - q.1))]) (fun q=>[.tail 5 1 q.2,.var g1 45 (widA a)]) (fun q=>q.1<=4) (fun q=>4 - q.1) (0,.slice none 0 0) ⟨rfl,rfl,rfl,trivial⟩ slr (Nat.zero_le _) ?_
 rintro⟨q,v⟩ hq
 dsimp only at hq ⊢
 repeat' first|refine Vz ?_|intro _
 refine ac_cond (fun hlt=>?_) (fun hlt=>?_)
 ·have hq4:q < 4:=by omega
  repeat' first|refine Vz ?_|intro _
  refine ac_loop (α:=Nat × Value) (fun r=>[(1,ptr g1),(3,.sl 1 (((beB a.n).take (8 * q + r.1)).map u8A) (some r.2)),(4,int (3 - q)),(5,int (7 - r.1))]) (fun r=>[.tail 5 1 r.2,.var g1 45 (widA a)]) (fun r=>r.1<=8) (fun r=>8 - r.1) (0,v) ⟨rfl,rfl,rfl,rfl,trivial⟩ slr (Nat.zero_le _) ?_
  rintro⟨r,v⟩ hr
  dsimp only at hr ⊢
  have hml:(((beB a.n).take (8 * q + r)).map u8A).length<=32:=by rw [llm,List.length_take];omega
  repeat' first|refine Vz ?_|intro _
  refine ac_cond (fun hlt=>?_) (fun hlt=>?_)
  ·have hr8:r < 8:=by omega
   have e1:UInt8.ofNat (lm a.n (3 - q) / 256 ^ (7 - r))=UInt8.ofNat (dg a.n (31 - (8 * q + r))):=by
    rw [<- lm_dg,show (31 - (8 * q + r)) / 8=3 - q by omega,show (31 - (8 * q + r)) % 8=7 - r by omega]
    apply UInt8.toNat_inj.1
    rw [UInt8.toNat_ofNat',UInt8.toNat_ofNat']
    omega
   repeat' first|refine Vz ?_|intro _
   refine al_idxA (3 - q) ?_
   repeat' first|refine Vz ?_|intro _
   refine al_loadE (j:=3 - q) (wid_get (by omega)) ?_
   repeat' first|refine Vz ?_|intro _
   refine al_shrB (7 - r) ?_
   refine al_convI ?_
   rw [u8_wrap,e1]
   repeat' first|refine Vz ?_|intro _
   refine al_append (fun v'=>?_)
   repeat' first|refine Vz ?_|intro _
   have e2:((beB a.n).take (8 * q + (r + 1))).map u8A=((beB a.n).take (8 * q + r)).map u8A++[u8A (UInt8.ofNat (dg a.n (31 - (8 * q + r))))]:=by
    rw [<- Nat.add_assoc,beB_take (by omega),List.map_append]
    rfl
   rw [<- e2,show (7:Int) - (r:Int) - 1=7 - ((r + 1:Nat):Int) by omega]
   refine ae_round (r + 1,v') ⟨rfl,rfl,rfl,rfl,trivial⟩ ?_ hr8 (by dsimp only;omega)
   exact sbl
  ·obtain rfl:r=8:=by omega
   repeat' first|refine Vz ?_|intro _
   rw [show (3:Int) - (q:Int) - 1=3 - ((q + 1:Nat):Int) by omega]
   refine ae_round (q + 1,v) ⟨rfl,rfl,rfl,trivial⟩ ?_ hq4 (by dsimp only;omega)
   exact sbl
 ·obtain rfl:q=4:=by omega
  rw [List.take_of_length_le (by omega)]
  repeat' first|refine Vz ?_|intro _
  refine reE ?_
  rfl⟩
def lmC (c:Bs)(k:Nat):Nat:=leN (c.take k).reverse
theorem lmC_step {c:Bs}{k:Nat}(h:k < c.length):lmC c (k + 1)=lmC c k * 256 + c[k].toNat:=by
 unfold lmC
 rw [List.take_succ_eq_append_getElem h,List.reverse_append,List.reverse_singleton,List.singleton_append,leN]
 omega
theorem lmC_lt (c:Bs)(k:Nat):lmC c k < 256 ^ k:=by
 have h:=leN_lt (c.take k).reverse
 refine Nat.lt_of_lt_of_le h (Nat.pow_le_pow_right (by decide) ?_)
 rw [List.length_reverse,List.length_take]
 omega
theorem lmC_8 {s:Bs}(hs:s.length=32){i:Nat}(hi:i < 4):lmC ((s.take (8 * (3 - i) + 8)).drop (8 * (3 - i))) 8=lm (beN s) i:=by
 have hc:((s.take (8 * (3 - i) + 8)).drop (8 * (3 - i))).length=8:=by rw [List.length_drop,List.length_take];omega
 have e:s.reverse=(s.drop (8 * (3 - i) + 8)).reverse++(((s.take (8 * (3 - i) + 8)).drop (8 * (3 - i))).reverse++(s.take (8 * (3 - i))).reverse):=by
  rw [<- List.reverse_append,<- List.reverse_append]
  congr 1
  have h1:s.take (8 * (3 - i))=(s.take (8 * (3 - i) + 8)).take (8 * (3 - i)):=by rw [List.take_take,Nat.min_eq_left (by omega)]
  rw [h1,List.take_append_drop,List.take_append_drop]
 have l1:(s.drop (8 * (3 - i) + 8)).reverse.length=8 * i:=by rw [List.length_reverse,List.length_drop];omega
 have h1:=leN_lt (s.drop (8 * (3 - i) + 8)).reverse
 have h2:=leN_lt ((s.take (8 * (3 - i) + 8)).drop (8 * (3 - i))).reverse
 have l2:((s.take (8 * (3 - i) + 8)).drop (8 * (3 - i))).reverse.length=8:=by rw [List.length_reverse,hc]
 rw [l1] at h1
 rw [l2] at h2
 unfold lm beN lmC
 rw [List.take_of_length_le (by omega),e,leN_append,leN_append,l1,l2,B_pow,Nat.add_mul_div_left _ _ (pos256 _),Nat.div_eq_of_lt h1,Nat.zero_add,show (256:Nat) ^ 8=18446744073709551616 from rfl,Nat.add_mul_mod_self_left]
 exact (Nat.mod_eq_of_lt h2).symm
theorem mixF_up2 {X:Nat->Nat}{i:Nat}(h:i < 4)(y z:Nat):(mixF X (fun j=>if j=i then y else 0) i).set i (u6 z)=mixF X (fun j=>if j=i then z else 0) i:=by
 rcases i with _|_|_|_|i <;> first|rfl|omega
theorem mixF_z {X:Nat->Nat}{i:Nat}(h:i < 4):mixF X (fun j=>if j=i then 0 else 0) i=mixF X (fun _=>0) i:=by
 rcases i with _|_|_|_|i <;> first|rfl|omega
theorem mixF_done {X:Nat->Nat}{i:Nat}(h:i < 4):mixF X (fun j=>if j=i then X i else 0) i=mixF X (fun _=>0) (i + 1):=by
 rcases i with _|_|_|_|i <;> first|rfl|omega
set_option maxHeartbeats 1000000 in
instance fnWFrom {s:Bs}:Ans Tryz.prog GL 261 [str s] (s.length<=1000000000) (.tup [widA (if s.length=32 then wOf (beN s) else wZ),int (if s.length=32 then 0 else 10)]):=⟨fun hl=>by
 refine qE Tryz.func261 rfl Tryz.ntmps261 rfl (fun _ hs=>?_)
 repeat' first|refine Vz ?_|intro _
 refine ac_cond (fun hne=>?_) (fun hne=>?_)
 ·have h32:¬ s.length=32:=by omega
  repeat' first|refine Vz ?_|intro _
  refine reE ?_
  rw [if_neg h32,if_neg h32]
  rfl
 have h32:s.length=32:=by omega
 repeat' first|refine Vz ?_|intro _
 rename_i g2 g4
 refine ac_asV (g:=g4) (v':=.agg 4 (mixF (lm (beN s)) (fun _=>0) 0)) (fun ok w cs h=>by rw [mixF_0];exact h) ?_
 refine ac_loop (α:=Nat) (fun i=>[(0,str s),(2,ptr g2),(3,int 0),(4,ptr g4),(13,int i)])
   (fun i=>[.var g4 45 (.agg 4 (mixF (lm (beN s)) (fun _=>0) i)),.var g2 45 (widN 0)]) (fun i=>i<=4) (fun i=>4 - i) 0 ⟨rfl,rfl,rfl,rfl,rfl,trivial⟩ slr (Nat.zero_le _) ?_
 intro i hi
 repeat' first|refine Vz ?_|intro _
 refine ac_cond (fun hlt=>?_) (fun hlt=>?_)
 ·have hi4:i < 4:=by omega
  have hln:=mixF_len (lm (beN s)) (fun _=>0) i
  repeat' first|refine Vz ?_|intro _
  refine al_sliceS (8 * (3 - i)) (8 * (3 - i) + 8) ?_
  have hlm:=lmC_8 h32 hi4
  have hc:((s.take (8 * (3 - i) + 8)).drop (8 * (3 - i))).length=8:=by rw [List.length_drop,List.length_take];omega
  generalize (s.take (8 * (3 - i) + 8)).drop (8 * (3 - i))=c at *
  have hmc:(c.map fun c=>AV.lit (u8v c)).length=8:=by rw [llm,hc]
  repeat' first|refine Vz ?_|intro _
  rw [<- mixF_z hi4]
  refine ac_loop (α:=Nat) (fun k=>[(0,str s),(2,ptr g2),(3,int 0),(4,ptr g4),(13,int i),(5,int i),(24,.sl 1 (c.map fun c=>.lit (u8v c)) none),(25,int ((c.map fun c=>AV.lit (u8v c)).length)),(26,int k)])
   (fun k=>[.var g4 45 (.agg 4 (mixF (lm (beN s)) (fun j=>if j=i then lmC c k else 0) i)),.var g2 45 (widN 0)]) (fun k=>k<=8) (fun k=>8 - k) 0 ⟨rfl,rfl,rfl,rfl,rfl,rfl,rfl,rfl,rfl,trivial⟩ slr (Nat.zero_le _) ?_
  intro k hk
  have hlt8:=lmC_lt c k
  repeat' first|refine Vz ?_|intro _
  refine ac_cond (fun hlt=>?_) (fun hlt=>?_)
  ·have hk8:k < c.length:=by omega
   have hst:=lmC_step hk8
   have hlt9:=lmC_lt c (k + 1)
   have hpw:256 ^ (k + 1)<=18446744073709551616:=Nat.pow_le_pow_right (n:=256) (j:=8) (by decide) (by omega)
   have hby:=c[k].toNat_lt
   have hln:=mixF_len (lm (beN s)) (fun j=>if j=i then lmC c k else 0) i
   have hg:=mixF_get (X:=lm (beN s)) (Y:=fun j=>if j=i then lmC c k else 0) hi4
   rw [if_pos rfl] at hg
   repeat' first|refine Yz ?_|intro _
   refine al_idxA i ?_
   repeat' first|refine Yz ?_|intro _
   refine al_loadE hg ?_
   repeat' first|refine Yz ?_|intro _
   refine al_idxA i ?_
   refine al_storeE (j:=i) (by rw [hln];exact hi4) ?_
   rw [show AV.lit (.int .u64 ((lmC c k:Int) * 256 + (c[k].toNat:Int)))=u6 (lmC c (k + 1)) by rw [hst];congr 2,mixF_up2 hi4]
   repeat' first|refine Yz ?_|intro _
   refine ae_round (k + 1) ⟨rfl,rfl,rfl,rfl,rfl,rfl,rfl,rfl,rfl,trivial⟩ ?_ (by omega) (by omega)
   exact sbl
  ·obtain rfl:k=8:=by omega
   rw [hlm,mixF_done hi4]
   repeat' first|refine Vz ?_|intro _
   refine ae_round (i + 1) ⟨rfl,rfl,rfl,rfl,rfl,trivial⟩ ?_ hi4 (by omega)
   exact sbl
 ·obtain rfl:i=4:=by omega
  rw [show AV.agg 4 (mixF (lm (beN s)) (fun _=>0) 4)=widN (beN s) by rw [mixF_4]]
  repeat' first|refine Vz ?_|intro _
  refine reE ?_
  rw [if_pos h32,if_pos h32]
  show AV.tup [widN _,_]=.tup [widN _,_]
  rw [wOf_n (beN_lt h32)]⟩
end Go.Proofs.YtlkkekpcofjbeaaGreatDoor
