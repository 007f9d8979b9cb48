/- parts of names, walked -/
import Derived.Test.YtndhpgclmgpmoaaGreatDoorA23
import Derived.Test.YtndhpgclmgpmoaaGreatDoorA26
import Derived.Test.YtndhpgclmgpmoaaGreatDoorA27
import Derived.Test.YtndhpgclmgpmoaaGreatDoorA35
import Derived.Test.YtndhpgclmgpmoaaGreatDoorA36
namespace Go.Proofs.YtndhpgclmgpmoaaGreatDoor
open Go Go.RowKit Tw Av






def rhS1 (s:Bs):Bs:=rsT 99 32 s false
def rhB1 (s:Bs):Bool:=rbT 99 32 s false
def rhS2 (s:Bs):Bs:=rsT 104 8 (rhS1 s) (rhB1 s)
def rhB2 (s:Bs):Bool:=riB 104 1099511627776 (rhS1 s) (rhB1 s)
def rhS3 (s:Bs):Bs:=rsT 116 8 (rhS2 s) (rhB2 s)
def rhB3 (s:Bs):Bool:=riB 116 1099511627776 (rhS2 s) (rhB2 s)
def rhX (s:Bs):Bs:=rtT 114 32 (rhS3 s) (rhB3 s)
def rhE (s:Bs):Int:=reE' (rsT 114 32 (rhS3 s) (rhB3 s)) (rbT 114 32 (rhS3 s) (rhB3 s))
def rhV (s:Bs):Hdr:=⟨rtT 99 32 s false,riI 104 1099511627776 (rhS1 s) (rhB1 s),riI 116 1099511627776 (rhS2 s) (rhB2 s),hOf (rhX s)⟩
def rhOk (s:Bs):Bool:=decide ((rhX s).length=32) && (decide (rhE s=0) && chkH (rhV s))
def zeroHd:Hdr:=⟨[],0,0,zeroH⟩
def rhdV (s:Bs):Hdr:=if rhOk s=true then rhV s else zeroHd
def rhdE (s:Bs):Int:=if rhOk s=true then 0 else 10


def cliB (x:Cli):Bs:=tlvT 99 x.c++tlvT 107 x.k++tlvI 112 x.p++tlvI 102 (if x.f=true then 1 else 0)++tlvA 115 (x.l.map fun s=>hdrB (hdOf x.c s))

def rcC (s:Bs):Bs:=rtT 99 32 s false
def rcS1 (s:Bs):Bs:=rsT 99 32 s false
def rcB1 (s:Bs):Bool:=rbT 99 32 s false
def rcK (s:Bs):Bs:=rtT 107 64 (rcS1 s) (rcB1 s)
def rcS2 (s:Bs):Bs:=rsT 107 64 (rcS1 s) (rcB1 s)
def rcB2 (s:Bs):Bool:=rbT 107 64 (rcS1 s) (rcB1 s)
def rcP (s:Bs):Int:=riI 112 1099511627776 (rcS2 s) (rcB2 s)
def rcS3 (s:Bs):Bs:=rsT 112 8 (rcS2 s) (rcB2 s)
def rcB3 (s:Bs):Bool:=riB 112 1099511627776 (rcS2 s) (rcB2 s)
def rcF (s:Bs):Bool:=decide (riI 102 1 (rcS3 s) (rcB3 s)=1)
def rcS4 (s:Bs):Bs:=rsT 102 8 (rcS3 s) (rcB3 s)
def rcB4 (s:Bs):Bool:=riB 102 1 (rcS3 s) (rcB3 s)
def rcL (s:Bs):List Bs:=raL 115 32 200 (rcS4 s) (rcB4 s)
def rcE (s:Bs):Int:=reE' (rsT 115 16777215 (rcS4 s) (rcB4 s)) (raB 115 32 200 (rcS4 s) (rcB4 s))
def rcT (C t:Bs):Bool:=decide (rhdE t=0) && decide ((rhdV t).c=C)
def rcV (s:Bs):Cli:=⟨rcC s,rcK s,rcP s,rcF s,(rcL s).map fun t=>stOf (rhdV t)⟩
def rcOk (s:Bs):Bool:=(rcL s).all (rcT (rcC s)) && (decide (rcE s=0) && mayC (rcV s))
def rcdV (s:Bs):Cli:=if rcOk s=true then rcV s else zeroC
def rcdE (s:Bs):Int:=if rcOk s=true then 0 else 10


structure TxX where
 k:Int
 i:Bs
 o:Bs
 p:Bs
 q:Bs
 y:Bs
 e:Int
 h:Hdr
 m:Hsh
 x:Pkt
 a:Bs
 t:Int
 f:Prf
 g:Gp
abbrev txA (x:TxX):AV:=.agg 100 [int x.k,str x.i,str x.o,str x.p,str x.q,str x.y,int x.e,hdrA x.h,hA x.m,pktA x.x,str x.a,int x.t,prfA x.f,gpA x.g]
structure Rep where
 e:Int
 q:Int
 a:Bs
deriving DecidableEq
abbrev repA (r:Rep):AV:=.agg 3 [int r.e,int r.q,str r.a]
def rep0:Rep:=⟨0,0,[]⟩
def repE (e:Int):Rep:=⟨e,0,[]⟩
def clR (d:List Ent)(i:Bs):Cli:=rcdV (valE d (kyO [67] i))
def clB (d:List Ent)(i:Bs):Bool:=decide (rcdE (valE d (kyO [67] i))=0)
def enR (d:List Ent)(k i:Bs):EndX:=redV (valE d (kyO k i))
def enB (d:List Ent)(k i:Bs):Bool:=decide (redE (valE d (kyO k i))=0)
def nxR (d:List Ent)(i:Bs):Int:=if knE (valE d (kyO [78] i))=0 then knV (valE d (kyO [78] i)) else 1
def stE (d:List Ent)(i:Bs)(h t:Int):Int:=if clB d i=false then 12 else if actC (clR d i) t=false then 19 else if (findC (clR d i).l h).isSome=false then 18 else 0
def stR (d:List Ent)(i:Bs)(h t:Int):Sta:=if stE d i h t=0 then (findC (clR d i).l h).getD zeroS else zeroS
def prE (d:List Ent)(i:Bs)(h t:Int)(k v:Bs)(p:Prf):Int:=if stE d i h t=0/\holdsB (stR d i h t).r ⟨k,v⟩ p=false then 18 else stE d i h t
def goE (d:List Ent)(i:Bs)(h t:Int)(k:Bs)(g:Gp):Int:=if stE d i h t=0/\missB (stR d i h t).r k g=false then 18 else stE d i h t
def goR (d:List Ent)(i:Bs)(h t:Int)(k:Bs)(g:Gp):Sta:=if goE d i h t k g=0 then stR d i h t else zeroS
abbrev Out18:=List Ent × Rep
def failR (d:List Ent)(e:Int):Out18:=(d,repE e)
def tellR (d:List Ent)(r:List Ent × Int)(p:Rep):Out18:=if r.2=0 then (r.1,p) else failR d r.2
def putsR (d:List Ent)(k v:Bs):Out18:=tellR d (putR d k v) rep0
def fundR (d:List Ent)(x:Pkt):Out18:=if denB x.d=false\/0 < hopN x.d\/plainB x.g=false then failR d 1 else tellR d (mintR d x.g x.d x.a) rep0
def movR (d:List Ent)(x:Pkt):Out18:=if denB x.d=false\/plainB x.f=false\/plainB x.g=false then failR d 1 else tellR d (moveR d x.f x.g x.d x.a) rep0
def creR (d:List Ent)(x:TxX):Out18:=if partB x.i=false then failR d 1 else if clB d x.i=true then failR d 13 else if newE x.y x.e x.h≠0 then failR d (newE x.y x.e x.h) else putsR d (kyO [67] x.i) (cliB (newR x.y x.e x.h))
def updR (d:List Ent)(x:TxX)(t:Int):Out18:=if clB d x.i=false then failR d 12 else if updE (clR d x.i) x.h x.m t≠0 then failR d (updE (clR d x.i) x.h x.m t) else putsR d (kyO [67] x.i) (cliB (updC (clR d x.i) x.h x.m t))
def begR (d:List Ent)(x:TxX)(i k:Bs)(try':Bool)(t:Int):Out18:=
 if try'=false then (if (initE x.o x.q).2≠0 then failR d (initE x.o x.q).2 else putsR d (kyO k x.i) (enxB (initE x.o x.q).1))
 else if prE d i x.t t (kyO k x.p) (enxB ⟨1,x.q,x.o,[]⟩) x.f≠0 then failR d (prE d i x.t t (kyO k x.p) (enxB ⟨1,x.q,x.o,[]⟩) x.f)
 else if (tryE x.o x.p ⟨1,x.q,x.o,[]⟩).2≠0 then failR d (tryE x.o x.p ⟨1,x.q,x.o,[]⟩).2
 else putsR d (kyO k x.i) (enxB (tryE x.o x.p ⟨1,x.q,x.o,[]⟩).1)
def conR (d:List Ent)(x:TxX)(t:Int):Out18:=if partB x.i=false then failR d 1 else if enB d [75] x.i=true then failR d 13 else if clB d x.o=false then failR d 12 else begR d x x.o [75] (decide (x.k=6)) t
def opnR (d:List Ent)(x:TxX)(t:Int):Out18:=if partB x.i=false then failR d 1 else if enB d [72] x.i=true then failR d 13 else if enB d [75] x.o=false then failR d 12 else if (enR d [75] x.o).s≠3 then failR d 13 else begR d x (enR d [75] x.o).o [72] (decide (x.k=10)) t
def thrE (own:EndX)(i:Bs)(ack:Bool):EndX:=⟨if ack=true then 2 else 3,own.q,own.o,i⟩
def joiR (d:List Ent)(x:TxX)(own:EndX)(i k:Bs)(ack:Bool)(t:Int):Out18:=
 if prE d i x.t t (kyO k (if ack=true then x.p else own.p)) (enxB (thrE own x.i ack)) x.f≠0 then failR d (prE d i x.t t (kyO k (if ack=true then x.p else own.p)) (enxB (thrE own x.i ack)) x.f)
 else if (if ack=true then ackE own x.i x.p (thrE own x.i ack) else cnfE own x.i (thrE own x.i ack)).2≠0 then failR d (if ack=true then ackE own x.i x.p (thrE own x.i ack) else cnfE own x.i (thrE own x.i ack)).2
 else putsR d (kyO k x.i) (enxB (if ack=true then ackE own x.i x.p (thrE own x.i ack) else cnfE own x.i (thrE own x.i ack)).1)
def codR (d:List Ent)(x:TxX)(t:Int):Out18:=if enB d [75] x.i=false then failR d 12 else joiR d x (enR d [75] x.i) (enR d [75] x.i).o [75] (decide (x.k=7)) t
def opdR (d:List Ent)(x:TxX)(t:Int):Out18:=if enB d [72] x.i=false\/enB d [75] (enR d [72] x.i).o=false then failR d 12 else joiR d x (enR d [72] x.i) (enR d [75] (enR d [72] x.i).o).o [72] (decide (x.k=11)) t
def chaE (d:List Ent)(i:Bs)(asked:EndX->Bool):Int:=if enB d [72] i=false then 12 else if (enR d [72] i).s≠3\/asked (enR d [72] i)=false then 13 else 0
def chaK (d:List Ent)(i:Bs):Bool:=enB d [75] (enR d [72] i).o
def chaN (d:List Ent)(i:Bs):Bs:=(enR d [75] (enR d [72] i).o).o
def goes (d:List Ent)(x:Pkt):Pkt:={ x with q:=nxR d x.s,k:=(enR d [72] x.s).p }
def sndR (d:List Ent)(x:Pkt):Out18:=
 if chaE d x.s (fun _=>true)≠0 then failR d (chaE d x.s fun _=>true)
 else if chkP (goes d x)=false then failR d 1
 else if chaK d x.s=false\/clB d (chaN d x.s)=false then failR d 12
 else if lateP (goes d x) (latC (clR d (chaN d x.s)).l).h (latC (clR d (chaN d x.s)).l).t=true then failR d 21
 else tellR d (thenR (fun d=>sendR d (goes d x)) (thenR (fun y=>putR y (kyW [80] x.s (goes d x).q) (comP (goes d x))) (fun y=>putR y (kyO [78] x.s) (tlvI 110 ((goes d x).q + 1)))) d) ⟨0,(goes d x).q,[]⟩
def ackR (d:List Ent)(x:Pkt):Bs:=if (recvR d x).2=0 then [43] else failB (recvR d x).2
def rcvR (d:List Ent)(x:TxX)(h t:Int):Out18:=
 if chkP x.x=false then failR d 1
 else if chaE d x.x.k (fun c=>decide (c.p=x.x.s))≠0 then failR d (chaE d x.x.k fun c=>decide (c.p=x.x.s))
 else if lateP x.x h t=true then failR d 21
 else if (gO d (kyW [71] x.x.k x.x.q)).isSome=true then failR d 20
 else if chaK d x.x.k=false then failR d 12
 else if prE d (chaN d x.x.k) x.t t (kyW [80] x.x.s x.x.q) (comP x.x) x.f≠0 then failR d (prE d (chaN d x.x.k) x.t t (kyW [80] x.x.s x.x.q) (comP x.x) x.f)
 else tellR d (putR (if (recvR d x.x).2=0 then (recvR d x.x).1 else d) (kyW [71] x.x.k x.x.q) (rcpB (ackR d x.x))) ⟨0,0,ackR d x.x⟩
def endR (d:List Ent)(x:Pkt)(b:Bool)(e:Int):Out18:=
 if chaE d x.s (fun c=>decide (c.p=x.k))≠0 then failR d (chaE d x.s fun c=>decide (c.p=x.k))
 else if gO d (kyW [80] x.s x.q)≠some (comP x)\/chaK d x.s=false then failR d 12
 else if e≠0 then failR d e
 else if b=true/\(backR d x).2≠0 then failR d (backR d x).2
 else (drpL (if b=true then (backR d x).1 else d) (kyW [80] x.s x.q),rep0)
def acksR (d:List Ent)(x:TxX)(t:Int):Out18:=if chkP x.x=false\/ackIs x.a=false then failR d 1 else endR d x.x (decide (ackV x.a≠0)) (prE d (chaN d x.x.s) x.t t (kyW [71] x.x.k x.x.q) (rcpB x.a) x.f)
def timE (d:List Ent)(x:TxX)(t:Int):Int:=if goE d (chaN d x.x.s) x.t t (kyW [71] x.x.k x.x.q) x.g=0/\lateP x.x (goR d (chaN d x.x.s) x.t t (kyW [71] x.x.k x.x.q) x.g).h (goR d (chaN d x.x.s) x.t t (kyW [71] x.x.k x.x.q) x.g).t=false then 21 else goE d (chaN d x.x.s) x.t t (kyW [71] x.x.k x.x.q) x.g
def timR (d:List Ent)(x:TxX)(t:Int):Out18:=if chkP x.x=false then failR d 1 else endR d x.x true (timE d x t)
def doR (d:List Ent)(x:TxX)(h t:Int):Out18:=
 if x.k=1 then fundR d x.x else if x.k=2 then movR d x.x else if x.k=3 then creR d x else if x.k=4 then updR d x t
 else if x.k=5\/x.k=6 then conR d x t else if x.k=7\/x.k=8 then codR d x t else if x.k=9\/x.k=10 then opnR d x t else if x.k=11\/x.k=12 then opdR d x t
 else if x.k=13 then sndR d x.x else if x.k=14 then rcvR d x h t else if x.k=15 then acksR d x t else if x.k=16 then timR d x t else failR d 1

theorem getD_in {l:Bs}{i:Nat}(h:i < l.length):l.getD i 0=l[i]:=by simp [List.getD,h]
theorem noSl_iff {s:Bs}:noSl s=true↔∀ j,j < s.length->(s.getD j 0).toNat≠47:=by
 unfold noSl
 rw [List.all_eq_true]
 constructor
 ·intro h j hj
  have:=of_decide_eq_true (h s[j] (List.getElem_mem hj))
  rw [getD_in hj]
  intro e
  exact this (UInt8.toNat_inj.1 e)
 ·intro h c hc
  obtain⟨j,hj,rfl⟩:=List.getElem_of_mem hc
  have:=h j hj
  rw [getD_in hj] at this
  exact dT fun e=>this (by rw [e];rfl)
theorem noSl_ff {s:Bs}{i:Nat}(hi:i < s.length)(h:(s.getD i 0).toNat=47):noSl s=false:=by
 cases hn:noSl s
 ·rfl
 ·exact absurd h (noSl_iff.1 hn i hi)
theorem partB_no {s:Bs}(h:noSl s=false):partB s=false:=by unfold partB;rw [h];rfl
theorem partB_yes {s:Bs}(h:noSl s=true):partB s=decide (1<=s.length/\s.length<=32):=by unfold partB;rw [h];rfl
set_option maxHeartbeats 1000000 in
instance fnTPart {s:Bs}:Ans Tryz.prog GL 254 [str s] True (boo (partB s)):=⟨fun _=>by
 refine qE Tryz.func254 rfl Tryz.ntmps254 rfl (fun _ hs=>?_)
 repeat' first|refine Vz ?_|intro _
 refine al_rangeS (fun g=>?_)
 repeat' first|refine Vz ?_|intro _
 refine ac_loop (α:=Nat) (fun i=>[(0,str s),(6,ptr g)]) (fun i=>[.obj g (.stringIter ⟨s.toArray⟩ i)]) (fun i=>i<=s.length/\∀ j,j < i->(s.getD j 0).toNat≠47) (fun i=>s.length - i) 0 ⟨rfl,rfl,trivial⟩ slr ⟨Nat.zero_le _,fun _ h=>absurd h (by omega)⟩ ?_
 rintro i ⟨hi,hall⟩
 repeat' first|refine Vz ?_|intro _
 by_cases hlt:i < s.length
 ·obtain⟨w1,w2,w3⟩:=rune_cases hlt
  obtain⟨r1,r2⟩:=rune_byte hlt (show 47 < 128 by decide)
  refine al_nextS (pre:=[]) (post:=[]) hlt rfl ?_
  repeat' first|refine Vz ?_|intro _
  refine ac_cond (fun h=>?_) (fun h=>?_)
  ·repeat' first|refine Vz ?_|intro _
   refine reE ?_
   rw [partB_no (noSl_ff hlt (r1.1 (by omega)))]
   rfl
  ·repeat' first|refine Vz ?_|intro _
   refine ae_round (i + (runeAt s i).2) ⟨rfl,rfl,trivial⟩ slr ⟨w2,fun j hj=>?_⟩ (by omega)
   by_cases hj2:j < i
   ·exact hall j hj2
   ·exact r2 (by omega) j (by omega) hj
 ·refine al_nextE (g:=g) (by omega) (List.mem_singleton.2 rfl) ?_
  have hy:noSl s=true:=noSl_iff.2 fun j hj=>hall j (by omega)
  rw [partB_yes hy]
  rcases s with _|⟨c,s⟩
  ·repeat' first|refine Zz ?_|intro _
   refine reE ?_
   rfl
  ·repeat' first|refine Zz ?_|intro _
   refine reE ?_
   rw [decide_eq_decide.2 (show (1<=(c::s).length/\(c::s).length<=32)↔(((c::s).length:Int)<=32) by rw [List.length_cons];omega)]
   rfl⟩
set_option maxHeartbeats 1000000 in
instance fnRPart {s:Bs}:Ans Tryz.prog GL 153 [str s] (s.length<=4611686018427387904) (boo (partB s)):=⟨fun hl=>by
 refine qE Tryz.func153 rfl Tryz.ntmps153 rfl (fun _ hs=>?_)
 repeat' first|refine Vz ?_|intro _
 refine ac_loop (α:=Nat) (fun i=>[(0,str s),(3,int i)]) (fun i=>[]) (fun i=>i<=s.length/\∀ j,j < i->(s.getD j 0).toNat≠47) (fun i=>s.length - i) 0 ⟨rfl,rfl,trivial⟩ slr ⟨Nat.zero_le _,fun _ h=>absurd h (by omega)⟩ ?_
 rintro i ⟨hi,hall⟩
 repeat' first|refine Vz ?_|intro _
 refine ac_cond (fun hlt=>?_) (fun hlt=>?_)
 ·have hil:i < s.length:=by omega
  repeat' first|refine Vz ?_|intro _
  refine al_idxS i ?_ (List.getElem?_eq_getElem hil)
  repeat' first|refine Vz ?_|intro _
  refine ac_cond (fun h=>?_) (fun h=>?_)
  ·repeat' first|refine Vz ?_|intro _
   refine reE ?_
   rw [partB_no (noSl_ff hil (by rw [getD_in hil];omega))]
   rfl
  ·repeat' first|refine Vz ?_|intro _
   refine ae_round (i + 1) ⟨rfl,rfl,trivial⟩ slr ⟨hil,fun j hj=>?_⟩ (by omega)
   by_cases hj2:j < i
   ·exact hall j hj2
   ·obtain rfl:j=i:=by omega
    rw [getD_in hil]
    omega
 ·have hy:noSl s=true:=noSl_iff.2 fun j hj=>hall j (by omega)
  rw [partB_yes hy]
  repeat' first|refine Vz ?_|intro _
  by_cases h1:1<=s.length
  ·repeat' first|refine Zz ?_|intro _
   refine reE ?_
   rw [decide_eq_decide.2 (show (1<=s.length/\s.length<=32)↔((s.length:Int)<=32) by omega)]
   rfl
  ·repeat' first|refine Zz ?_|intro _
   refine reE ?_
   have h0:¬ (1<=s.length/\s.length<=32):=fun h=>h1 h.1
   rw [dZ h0]
   rfl⟩
theorem splS_ne (s:Bs):splS s≠[]:=by
 cases s with
 | nil=>simp [splS]
 | cons c s=>
  rw [splS]
  split <;> simp
theorem splS_snoc47:∀ s:Bs,splS (s++[47])=splS s++[[]]
 | []=>rfl
 | c::s=>by
  have ih:=splS_snoc47 s
  rw [List.cons_append,splS,splS,ih]
  split
  ·rfl
  ·have hn:=splS_ne s
   cases h:splS s with
   | nil=>exact absurd h hn
   | cons a l=>rfl
theorem splS_snoc {c:UInt8}(hc:c≠47):∀ s:Bs,splS (s++[c])=(splS s).dropLast++[(splS s).getLastD []++[c]]
 | []=>by simp [splS,hc]
 | d::s=>by
  have ih:=splS_snoc hc s
  have hn:=splS_ne s
  rw [List.cons_append,splS,splS,ih]
  cases h:splS s with
  | nil=>exact absurd h hn
  | cons a l=>
   split
   ·cases l <;> simp
   ·cases l <;> simp
theorem splS_last (s:Bs):(splS s).dropLast++[(splS s).getLastD []]=splS s:=by
 have hn:=splS_ne s
 cases h:splS s with
 | nil=>exact absurd h hn
 | cons a l=>
  rw [List.getLastD_cons,<- List.getLast_eq_getLastD (h:=by simp)]
  exact List.dropLast_concat_getLast _
theorem splS_len:∀ s:Bs,(splS s).length=s.count 47 + 1
 | []=>rfl
 | c::s=>by
  have ih:=splS_len s
  have hn:=splS_ne s
  rw [splS]
  split
  ·rename_i h
   subst h
   simp [ih]
  ·rename_i h
   rw [List.count_cons_of_ne (by exact h)]
   cases h2:splS s with
   | nil=>exact absurd h2 hn
   | cons a l=>rw [h2] at ih;simpa using ih
theorem splS_part {s x:Bs}(h:x ∈ splS s):x.length<=s.length:=by
 induction s generalizing x with
 | nil=>simp [splS] at h;simp [h]
 | cons c s ih=>
  have hn:=splS_ne s
  rw [splS] at h
  split at h
  ·rcases List.mem_cons.1 h with rfl|h
   ·simp
   ·have:=ih h;simp;omega
  ·cases h2:splS s with
   | nil=>exact absurd h2 hn
   | cons a l=>
    rw [h2] at h
    simp at h
    rcases h with rfl|h
    ·have:=ih (x:=a) (by rw [h2];simp)
     simp
     omega
    ·have:=ih (x:=x) (by rw [h2];simp [h])
     simp
     omega
set_option maxHeartbeats 1000000 in
instance fnRParts {s:Bs}:Ans Tryz.prog GL 210 [str s] (s.length<=1000000000) (.sl 1 ((splS s).map str) none):=⟨fun hl=>by
 refine qE Tryz.func210 rfl Tryz.ntmps210 rfl (fun _ hs=>?_)
 repeat' first|refine Vz ?_|intro _
 refine ac_as 3 (Imp.nil (k:=1)) ?_
 refine ac_st (fun ok w h=>h.full 9 1 none 0) ?_
 refine ac_loop (α:=Nat × Value) (fun q=>[(0,str s),(3,.sl 1 ((splS (s.take q.1)).dropLast.map str) (some q.2)),(4,str ((splS (s.take q.1)).getLastD [])),(5,int q.1)]) (fun q=>[.tail 9 1 q.2]) (fun q=>q.1<=s.length) (fun q=>s.length - q.1) (0,.slice none 0 0) ⟨rfl,rfl,rfl,rfl,trivial⟩ slr (Nat.zero_le _) ?_
 rintro⟨i,v⟩ hi
 dsimp only at hi ⊢
 have hlen:=splS_len (s.take i)
 have hcnt:=List.count_le_length (l:=s.take i) (a:=(47:UInt8))
 have htl:(s.take i).length<=s.length:=List.length_take_le' _ _
 have hlast:((splS (s.take i)).getLastD []).length<=s.length:=by
  have h:=splS_last (s.take i)
  refine Nat.le_trans (splS_part (s:=s.take i) ?_) htl
  rw [<- h]
  simp
 have hm:((splS (s.take i)).dropLast.map str).length<=1000000001:=by rw [llm,List.length_dropLast];omega
 repeat' first|refine Vz ?_|intro _
 refine ac_cond (fun hlt=>?_) (fun hlt=>?_)
 ·have hil:i < s.length:=by omega
  have htk:s.take (i + 1)=s.take i++[s[i]]:=List.take_succ_eq_append_getElem hil
  repeat' first|refine Vz ?_|intro _
  refine al_idxS i ?_ (List.getElem?_eq_getElem hil)
  repeat' first|refine Vz ?_|intro _
  refine ac_cond (fun h=>?_) (fun h=>?_)
  ·have h47:s[i]=47:=UInt8.toNat_inj.1 (by show _=47;omega)
   have hsp:splS (s.take (i + 1))=splS (s.take i)++[[]]:=by rw [htk,h47,splS_snoc47]
   repeat' first|refine Vz ?_|intro _
   refine al_append (fun v'=>?_)
   repeat' first|refine Vz ?_|intro _
   have e1:(splS (s.take (i + 1))).dropLast.map str=(splS (s.take i)).dropLast.map str++[str ((splS (s.take i)).getLastD [])]:=by
    rw [hsp,List.dropLast_concat]
    conv=>lhs;rw [<- splS_last (s.take i)]
    rw [List.map_append]
    rfl
   have e2:(splS (s.take (i + 1))).getLastD []=[]:=by rw [hsp,List.getLastD_concat]
   rw [<- e1]
   refine ae_as 4 (v:=str []) (v':=str ((splS (s.take (i + 1))).getLastD [])) (Imp.of_eq (by rw [e2])) ?_
   refine ae_round (i + 1,v') ⟨rfl,rfl,rfl,rfl,trivial⟩ ?_ hil (by dsimp only;omega)
   exact sbl
  ·have h47:s[i]≠47:=fun e=>h (by rw [e];rfl)
   have hsp:splS (s.take (i + 1))=(splS (s.take i)).dropLast++[(splS (s.take i)).getLastD []++[s[i]]]:=by rw [htk,splS_snoc h47]
   repeat' first|refine Vz ?_|intro _
   refine al_sliceS i (i + 1) ?_
   have hone:(s.take (i + 1)).drop i=[s[i]]:=by
    rw [htk,List.drop_left' (by rw [List.length_take];omega)]
   rw [hone]
   have hl1:[s[i]].length=1:=rfl
   repeat' first|refine Vz ?_|intro _
   have e1:(splS (s.take (i + 1))).dropLast=(splS (s.take i)).dropLast:=by rw [hsp,List.dropLast_concat]
   have e2:(splS (s.take (i + 1))).getLastD []=(splS (s.take i)).getLastD []++[s[i]]:=by rw [hsp,List.getLastD_concat]
   rw [<- e1,<- e2]
   refine ae_round (i + 1,v) ⟨rfl,rfl,rfl,rfl,trivial⟩ ?_ hil (by dsimp only;omega)
   exact sbl
 ·obtain rfl:i=s.length:=by omega
  simp only [List.take_length] at hlen hcnt hlast hm ⊢
  repeat' first|refine Vz ?_|intro _
  refine al_append (fun v'=>?_)
  repeat' first|refine Vz ?_|intro _
  refine reI ?_
  refine Imp.trans (Imp.of_eq (?_:_=.sl 1 ((splS s).map str) (some v'))) ?_
  ·conv=>rhs;rw [<- splS_last s]
   rw [List.map_append]
   rfl
  ·exact Imp.sl⟩
end Go.Proofs.YtndhpgclmgpmoaaGreatDoor
