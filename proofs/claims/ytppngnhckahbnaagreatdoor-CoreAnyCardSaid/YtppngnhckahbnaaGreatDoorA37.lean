/- names, walked: where a slash is; how many there are; what stands behind a name -/
import Derived.Lib.Bytealg
import Derived.Test.YtppngnhckahbnaaGreatDoorA27
import Derived.Test.YtppngnhckahbnaaGreatDoorA29
import Derived.Test.YtppngnhckahbnaaGreatDoorA32
import Derived.Test.YtppngnhckahbnaaGreatDoorA33
import Derived.Test.YtppngnhckahbnaaGreatDoorA36
namespace Go.Proofs.YtppngnhckahbnaaGreatDoor
open Go Go.RowKit Tw Av
structure TxX where
 k:Int
 i:Bs
 o:Bs
 p:Bs
 q:Bs
 y:Bs
 e:Int
 h:Hdr
 m:Hsh
 x:Pkt
 a:Bs
 t:Int
 f:Prf
 g:Gp
abbrev txA (x:TxX):AV:=.agg 100 [int x.k,str x.i,str x.o,str x.p,str x.q,str x.y,int x.e,hdrA x.h,hA x.m,pktA x.x,str x.a,int x.t,prfA x.f,gpA x.g]
structure Rep where
 e:Int
 q:Int
 a:Bs
deriving DecidableEq
abbrev repA (r:Rep):AV:=.agg 3 [int r.e,int r.q,str r.a]
def rep0:Rep:=⟨0,0,[]⟩
def repE (e:Int):Rep:=⟨e,0,[]⟩
def clR (d:List Ent)(i:Bs):Cli:=rcdV (valE d (kyO [67] i))
def clB (d:List Ent)(i:Bs):Bool:=decide (rcdE (valE d (kyO [67] i))=0)
def enR (d:List Ent)(k i:Bs):EndX:=redV (valE d (kyO k i))
def enB (d:List Ent)(k i:Bs):Bool:=decide (redE (valE d (kyO k i))=0)
def nxR (d:List Ent)(i:Bs):Int:=if knE (valE d (kyO [78] i))=0 then knV (valE d (kyO [78] i)) else 1
def stE (d:List Ent)(i:Bs)(h t:Int):Int:=if clB d i=false then 12 else if actC (clR d i) t=false then 19 else if (findC (clR d i).l h).isSome=false then 18 else 0
def stR (d:List Ent)(i:Bs)(h t:Int):Sta:=if stE d i h t=0 then (findC (clR d i).l h).getD zeroS else zeroS
def prE (d:List Ent)(i:Bs)(h t:Int)(k v:Bs)(p:Prf):Int:=if stE d i h t=0∧holdsB (stR d i h t).r ⟨k,v⟩ p=false then 18 else stE d i h t
def goE (d:List Ent)(i:Bs)(h t:Int)(k:Bs)(g:Gp):Int:=if stE d i h t=0∧missB (stR d i h t).r k g=false then 18 else stE d i h t
def goR (d:List Ent)(i:Bs)(h t:Int)(k:Bs)(g:Gp):Sta:=if goE d i h t k g=0 then stR d i h t else zeroS
abbrev Out18:=List Ent × Rep
def failR (d:List Ent)(e:Int):Out18:=(d,repE e)
def tellR (d:List Ent)(r:List Ent × Int)(p:Rep):Out18:=if r.2=0 then (r.1,p) else failR d r.2
def putsR (d:List Ent)(k v:Bs):Out18:=tellR d (putR d k v) rep0
def fundR (d:List Ent)(x:Pkt):Out18:=if denB x.d=false∨0 < hopN x.d∨plainB x.g=false then failR d 1 else tellR d (mintR d x.g x.d x.a) rep0
def movR (d:List Ent)(x:Pkt):Out18:=if denB x.d=false∨plainB x.f=false∨plainB x.g=false then failR d 1 else tellR d (moveR d x.f x.g x.d x.a) rep0
def creR (d:List Ent)(x:TxX):Out18:=if partB x.i=false then failR d 1 else if clB d x.i=true then failR d 13 else if newE x.y x.e x.h≠0 then failR d (newE x.y x.e x.h) else putsR d (kyO [67] x.i) (cliB (newR x.y x.e x.h))
def updR (d:List Ent)(x:TxX)(t:Int):Out18:=if clB d x.i=false then failR d 12 else if updE (clR d x.i) x.h x.m t≠0 then failR d (updE (clR d x.i) x.h x.m t) else putsR d (kyO [67] x.i) (cliB (updC (clR d x.i) x.h x.m t))
def begR (d:List Ent)(x:TxX)(i k:Bs)(try':Bool)(t:Int):Out18:=
 if try'=false then (if (initE x.o x.q).2≠0 then failR d (initE x.o x.q).2 else putsR d (kyO k x.i) (enxB (initE x.o x.q).1))
 else if prE d i x.t t (kyO k x.p) (enxB ⟨1,x.q,x.o,[]⟩) x.f≠0 then failR d (prE d i x.t t (kyO k x.p) (enxB ⟨1,x.q,x.o,[]⟩) x.f)
 else if (tryE x.o x.p ⟨1,x.q,x.o,[]⟩).2≠0 then failR d (tryE x.o x.p ⟨1,x.q,x.o,[]⟩).2
 else putsR d (kyO k x.i) (enxB (tryE x.o x.p ⟨1,x.q,x.o,[]⟩).1)
def conR (d:List Ent)(x:TxX)(t:Int):Out18:=if partB x.i=false then failR d 1 else if enB d [75] x.i=true then failR d 13 else if clB d x.o=false then failR d 12 else begR d x x.o [75] (decide (x.k=6)) t
def opnR (d:List Ent)(x:TxX)(t:Int):Out18:=if partB x.i=false then failR d 1 else if enB d [72] x.i=true then failR d 13 else if enB d [75] x.o=false then failR d 12 else if (enR d [75] x.o).s≠3 then failR d 13 else begR d x (enR d [75] x.o).o [72] (decide (x.k=10)) t
def thrE (own:EndX)(i:Bs)(ack:Bool):EndX:=⟨if ack=true then 2 else 3,own.q,own.o,i⟩
def joiR (d:List Ent)(x:TxX)(own:EndX)(i k:Bs)(ack:Bool)(t:Int):Out18:=
 if prE d i x.t t (kyO k (if ack=true then x.p else own.p)) (enxB (thrE own x.i ack)) x.f≠0 then failR d (prE d i x.t t (kyO k (if ack=true then x.p else own.p)) (enxB (thrE own x.i ack)) x.f)
 else if (if ack=true then ackE own x.i x.p (thrE own x.i ack) else cnfE own x.i (thrE own x.i ack)).2≠0 then failR d (if ack=true then ackE own x.i x.p (thrE own x.i ack) else cnfE own x.i (thrE own x.i ack)).2
 else putsR d (kyO k x.i) (enxB (if ack=true then ackE own x.i x.p (thrE own x.i ack) else cnfE own x.i (thrE own x.i ack)).1)
def codR (d:List Ent)(x:TxX)(t:Int):Out18:=if enB d [75] x.i=false then failR d 12 else joiR d x (enR d [75] x.i) (enR d [75] x.i).o [75] (decide (x.k=7)) t
def opdR (d:List Ent)(x:TxX)(t:Int):Out18:=if enB d [72] x.i=false∨enB d [75] (enR d [72] x.i).o=false then failR d 12 else joiR d x (enR d [72] x.i) (enR d [75] (enR d [72] x.i).o).o [72] (decide (x.k=11)) t
def chaE (d:List Ent)(i:Bs)(asked:EndX→Bool):Int:=if enB d [72] i=false then 12 else if (enR d [72] i).s≠3∨asked (enR d [72] i)=false then 13 else 0
def chaK (d:List Ent)(i:Bs):Bool:=enB d [75] (enR d [72] i).o
def chaN (d:List Ent)(i:Bs):Bs:=(enR d [75] (enR d [72] i).o).o
def goes (d:List Ent)(x:Pkt):Pkt:={ x with q:=nxR d x.s,k:=(enR d [72] x.s).p }
def sndR (d:List Ent)(x:Pkt):Out18:=
 if chaE d x.s (fun _=>true)≠0 then failR d (chaE d x.s fun _=>true)
 else if chkP (goes d x)=false then failR d 1
 else if chaK d x.s=false∨clB d (chaN d x.s)=false then failR d 12
 else if lateP (goes d x) (latC (clR d (chaN d x.s)).l).h (latC (clR d (chaN d x.s)).l).t=true then failR d 21
 else tellR d (thenR (fun d=>sendR d (goes d x)) (thenR (fun y=>putR y (kyW [80] x.s (goes d x).q) (comP (goes d x))) (fun y=>putR y (kyO [78] x.s) (tlvI 110 ((goes d x).q + 1)))) d) ⟨0,(goes d x).q,[]⟩
def ackR (d:List Ent)(x:Pkt):Bs:=if (recvR d x).2=0 then [43] else failB (recvR d x).2
def rcvR (d:List Ent)(x:TxX)(h t:Int):Out18:=
 if chkP x.x=false then failR d 1
 else if chaE d x.x.k (fun c=>decide (c.p=x.x.s))≠0 then failR d (chaE d x.x.k fun c=>decide (c.p=x.x.s))
 else if lateP x.x h t=true then failR d 21
 else if (gO d (kyW [71] x.x.k x.x.q)).isSome=true then failR d 20
 else if chaK d x.x.k=false then failR d 12
 else if prE d (chaN d x.x.k) x.t t (kyW [80] x.x.s x.x.q) (comP x.x) x.f≠0 then failR d (prE d (chaN d x.x.k) x.t t (kyW [80] x.x.s x.x.q) (comP x.x) x.f)
 else tellR d (putR (if (recvR d x.x).2=0 then (recvR d x.x).1 else d) (kyW [71] x.x.k x.x.q) (rcpB (ackR d x.x))) ⟨0,0,ackR d x.x⟩
def endR (d:List Ent)(x:Pkt)(b:Bool)(e:Int):Out18:=
 if chaE d x.s (fun c=>decide (c.p=x.k))≠0 then failR d (chaE d x.s fun c=>decide (c.p=x.k))
 else if gO d (kyW [80] x.s x.q)≠some (comP x)∨chaK d x.s=false then failR d 12
 else if e≠0 then failR d e
 else if b=true∧(backR d x).2≠0 then failR d (backR d x).2
 else (drpL (if b=true then (backR d x).1 else d) (kyW [80] x.s x.q),rep0)
def acksR (d:List Ent)(x:TxX)(t:Int):Out18:=if chkP x.x=false∨ackIs x.a=false then failR d 1 else endR d x.x (decide (ackV x.a≠0)) (prE d (chaN d x.x.s) x.t t (kyW [71] x.x.k x.x.q) (rcpB x.a) x.f)
def timE (d:List Ent)(x:TxX)(t:Int):Int:=if goE d (chaN d x.x.s) x.t t (kyW [71] x.x.k x.x.q) x.g=0∧lateP x.x (goR d (chaN d x.x.s) x.t t (kyW [71] x.x.k x.x.q) x.g).h (goR d (chaN d x.x.s) x.t t (kyW [71] x.x.k x.x.q) x.g).t=false then 21 else goE d (chaN d x.x.s) x.t t (kyW [71] x.x.k x.x.q) x.g
def timR (d:List Ent)(x:TxX)(t:Int):Out18:=if chkP x.x=false then failR d 1 else endR d x.x true (timE d x t)
def doR (d:List Ent)(x:TxX)(h t:Int):Out18:=
 if x.k=1 then fundR d x.x else if x.k=2 then movR d x.x else if x.k=3 then creR d x else if x.k=4 then updR d x t
 else if x.k=5∨x.k=6 then conR d x t else if x.k=7∨x.k=8 then codR d x t else if x.k=9∨x.k=10 then opnR d x t else if x.k=11∨x.k=12 then opdR d x t
 else if x.k=13 then sndR d x.x else if x.k=14 then rcvR d x h t else if x.k=15 then acksR d x t else if x.k=16 then timR d x t else failR d 1
end Go.Proofs.YtppngnhckahbnaaGreatDoor

namespace Av
open Go Go.RowKit Tw
def runeAt (l:Bs)(i:Nat):Nat × Nat:=Utf8.decode ⟨l.toArray⟩ i
theorem get_sv (l:Bs)(i:Nat):(⟨l.toArray⟩:ByteArray).get! i=l.getD i 0:=by
 show (l.toArray)[i]! = _
 simp [List.getD]
 rfl
theorem rune_cases {l:Bs}{i:Nat}(hi:i < l.length):1≤(runeAt l i).2∧i + (runeAt l i).2≤l.length ∧
  (((l.getD i 0).toNat < 128∧(runeAt l i).1=(l.getD i 0).toNat∧(runeAt l i).2=1)∨(128≤(l.getD i 0).toNat∧128≤(runeAt l i).1∧∀ k,0 < k→k < (runeAt l i).2→128≤(l.getD (i + k) 0).toNat)):=by
 unfold runeAt Utf8.decode
 simp only [get_sv,size_sv,Nat.add_zero,Utf8.runeError]
 have hb:=UInt8.toNat_lt (l.getD i 0)
 generalize (l.getD i 0).toNat=b0 at *
 have key:∀ k,(l.getD (i + k) 0).toNat=(l.getD (i + k) 0).toNat:=fun _=>rfl
 split
 ·rename_i h
  exact⟨by omega,by omega,.inl ⟨h,rfl,rfl⟩⟩
 ·rename_i h
  have one:∀ c:Nat,128≤c→1≤(c,1).2∧i + (c,1).2≤l.length∧((b0 < 128∧(c,1).1=b0∧(c,1).2=1)∨(128≤b0∧128≤(c,1).1∧∀ k,0 < k→k < (c,1).2→128≤(l.getD (i + k) 0).toNat)):=
   fun c hc=>⟨Nat.le_refl _,by simp only;omega,.inr ⟨by omega,hc,fun k h1 h2=>by simp only at h2;omega⟩⟩
  split
  ·rename_i h1
   simp only [Bool.and_eq_true,decide_eq_true_eq,beq_iff_eq] at h1
   obtain⟨h1,h2,h3⟩:=h1
   split
   ·rename_i h4
    refine⟨by simp only;omega,by simp only;omega,.inr ⟨by omega,by simp only;omega,fun k g1 g2=>?_⟩⟩
    simp only at g2
    obtain rfl:k=1:=by omega
    omega
   ·exact one _ (by decide)
  ·split
   ·rename_i h1
    simp only [Bool.and_eq_true,decide_eq_true_eq,beq_iff_eq] at h1
    obtain⟨⟨h1,h2,h3⟩,h4,h5⟩:=h1
    split
    ·rename_i h6
     simp only [Bool.and_eq_true,decide_eq_true_eq,ge_iff_le] at h6
     refine⟨by simp only;omega,by simp only;omega,.inr ⟨by omega,by simp only;omega,fun k g1 g2=>?_⟩⟩
     simp only at g2
     rcases (by omega:k=1∨k=2) with rfl|rfl <;> omega
    ·exact one _ (by decide)
   ·split
    ·rename_i h1
     simp only [Bool.and_eq_true,decide_eq_true_eq,beq_iff_eq] at h1
     obtain⟨⟨⟨h1,h2,h3⟩,h4,h5⟩,h6,h7⟩:=h1
     split
     ·rename_i h8
      simp only [Bool.and_eq_true,decide_eq_true_eq,ge_iff_le] at h8
      refine⟨by simp only;omega,by simp only;omega,.inr ⟨by omega,by simp only;omega,fun k g1 g2=>?_⟩⟩
      simp only at g2
      rcases (by omega:k=1∨k=2∨k=3) with rfl|rfl|rfl <;> omega
     ·exact one _ (by decide)
    ·exact one _ (by decide)
theorem rune_byte {l:Bs}{i c:Nat}(hi:i < l.length)(hc:c < 128):((runeAt l i).1=c↔(l.getD i 0).toNat=c)∧((runeAt l i).1≠c→∀ j,i≤j→j < i + (runeAt l i).2→(l.getD j 0).toNat≠c):=by
 obtain⟨h1,h2,h3⟩:=rune_cases hi
 rcases h3 with⟨h3,h4,h5⟩|⟨h3,h4,h5⟩
 ·refine⟨by omega,fun hne j g1 g2=>?_⟩
  obtain rfl:j=i:=by omega
  omega
 ·refine⟨by omega,fun hne j g1 g2=>?_⟩
  by_cases hj:j=i
  ·subst hj;omega
  ·have:=h5 (j - i) (by omega) (by omega)
   rw [show i + (j - i)=j by omega] at this
   omega
section
variable {P:Program} {N:Nat} {ops:Array Oper} {Q:Exit→Act→World→Prop} {rest:List Oper} {s:Base} {e:Env} {m:List Piece} {d:Nat} {ty:TypeId} {pos:String} {af:Array Edge}
theorem St.newObj {ok:Ok}{w:World}(h:St s ok m w){o:Obj}(ho:Obj.notCells o=true):∃ ok',St s ok' (.obj w.heap.size o::m) (w.alloc o)∧Stp ok w ok' (w.alloc o):=by
 have hk:∀ b j,b < w.heap.size→((ok b j∧b≠w.heap.size)↔ok b j):=fun b j hb=>⟨fun h=>h.1,fun h=>⟨h,by omega⟩⟩
 have hnew:(w.alloc o).heap[w.heap.size]?=some o:=by
  show (w.heap.push o)[w.heap.size]?=some o
  simp
 have hsz:(w.alloc o).heap.size=w.heap.size + 1:=by
  show (w.heap.push o).size=_
  simp
 refine⟨fun b j=>ok b j∧b≠w.heap.size,h.grow (new:=[.obj w.heap.size o]) (Ext.alloc w o) hk (fun b j hb=>⟨h.fresh b j (by omega),by omega⟩) ?_ ?_ ?_ ?_⟩
 ·intro p hp
  rw [List.mem_singleton] at hp
  subst hp
  exact⟨hnew,ho⟩
 ·intro p hp g hg
  rw [List.mem_singleton] at hp
  subst hp
  injection hg with hg
  omega
 ·intro p hp b j hb hh
  rw [List.mem_singleton] at hp
  subst hp
  exact hh.2 hb
 ·exact List.pairwise_singleton _ _
theorem St.setObj {ok:Ok}{w:World}{pre post:List Piece}{g:Nat}{o o':Obj}(h:St s ok (pre++.obj g o::post) w)(ho:Obj.notCells o'=true) :
  St s ok (pre++.obj g o'::post) { w with heap:=w.heap.setIfInBounds g o' }∧Stp ok w ok { w with heap:=w.heap.setIfInBounds g o' }:=by
 have hpm:Piece.obj g o ∈ pre++.obj g o::post:=by simp
 have hlt:g < w.heap.size:=(h.lt _ hpm g rfl).1
 have hoth:∀ b,b≠g→(w.heap.setIfInBounds g o')[b]?=w.heap[b]?:=fun b hb=>Array.getElem?_setIfInBounds_ne (Ne.symm hb)
 have hst:Stp ok w ok { w with heap:=w.heap.setIfInBounds g o' }:=⟨by simp,fun b j u h1 h2=>by
  have hne:b≠g:=by
   rintro rfl
   exact h.own _ hpm b j rfl h2
  exact⟨(cell_block (hoth b hne)).trans h1,h2⟩⟩
 refine⟨h.write (g:=g) (p':=.obj g o') rfl (.inl rfl) hst ⟨by simp [hlt],ho⟩ (fun b j hb=>h.own _ hpm b j hb) (by simp) rfl rfl rfl hoth (fun _ _ _=>Iff.rfl),hst⟩
theorem al_rangeS {T:TypeId}[t:TyT P T]{x:Operand}{l:Bs}(h:∀ g,AL P N ops Q s rest ((d,ptr g)::e) (.obj g (.stringIter ⟨l.toArray⟩ 0)::m))(hx:ev e x=some (str l):=by exact rfl)(hd:Nat.blt d N=true:=by exact rfl):AL P N ops Q s (⟨some d,.range T x,ty,pos,af,none⟩::rest) e m:=
 al_stepV (fun ok w A hS hA=>by
  obtain⟨ok',g1,g2⟩:=hS.newObj (o:=.stringIter ⟨l.toArray⟩ 0) rfl
  exact⟨_,.pointer (some ⟨w.heap.size,0,none⟩),w.alloc (.stringIter ⟨l.toArray⟩ 0),ok',_,by simp [execOp,hA.lit hx,Instr.range,run_underlying t.out,newObj,Sem.run],RVl rfl,g1,g2,h w.heap.size⟩) hd
theorem al_nextS {x:Operand}{l:Bs}{g i:Nat}{pre post:List Piece}(hi:i < l.length)(hm:m=pre++.obj g (.stringIter ⟨l.toArray⟩ i)::post)(h:AL P N ops Q s rest ((d,.tup [boo true,int i,.lit (.int .i32 (runeAt l i).1)])::e) (pre++.obj g (.stringIter ⟨l.toArray⟩ (i + (runeAt l i).2))::post))(hx:ev e x=some (ptr g):=by exact rfl)(hd:Nat.blt d N=true:=by exact rfl):AL P N ops Q s (⟨some d,.next x true,ty,pos,af,none⟩::rest) e m:=
 al_stepV (fun ok w A hS hA=>by
  subst hm
  obtain⟨ho,_⟩:=hS.at_ (.obj g (.stringIter ⟨l.toArray⟩ i)) (by simp)
  obtain⟨g1,g2⟩:=hS.setObj (o':=.stringIter ⟨l.toArray⟩ (i + (runeAt l i).2)) rfl
  have hi':i < (⟨l.toArray⟩:ByteArray).size:=by rw [size_sv];exact hi
  exact⟨.tup [boo true,int i,.lit (.int .i32 (runeAt l i).1)],.tuple #[.bool true,.int .i64 i,.int .i32 (runeAt l i).1],_,ok,_,by
   simp [execOp,hA.lit hx,Instr.next,getObj,setObj,Sem.run,ho,hi',goInt,runeAt],⟨_,rfl,_,_,rfl,RV0.of_lit rfl,_,_,rfl,RV0.of_lit rfl,_,_,rfl,RV0.of_lit rfl,rfl⟩,g1,g2,h⟩) hd
theorem al_nextE {x:Operand}{l:Bs}{g i:Nat}(hi:l.length≤i)(hm:Piece.obj g (.stringIter ⟨l.toArray⟩ i) ∈ m)(h:AL P N ops Q s rest ((d,.tup [boo false])::e) m)(hx:ev e x=some (ptr g):=by exact rfl)(hd:Nat.blt d N=true:=by exact rfl):AL P N ops Q s (⟨some d,.next x true,ty,pos,af,none⟩::rest) e m:=
 al_val (fun ok w A hS hA=>by
  obtain⟨ho,_⟩:=hS.at_ _ hm
  have hi':¬ i < (⟨l.toArray⟩:ByteArray).size:=by rw [size_sv];omega
  exact⟨.tuple #[.bool false],by simp [execOp,hA.lit hx,Instr.next,getObj,Sem.run,ho,hi'],⟨_,rfl,_,_,rfl,RV0.of_lit rfl,rfl⟩⟩) hd h
end
end Av

namespace Go.Proofs.YtppngnhckahbnaaGreatDoor
open Go Go.RowKit Tw Av
theorem getD_in {l:Bs}{i:Nat}(h:i < l.length):l.getD i 0=l[i]:=by simp [List.getD,h]
theorem noSl_iff {s:Bs}:noSl s=true↔∀ j,j < s.length→(s.getD j 0).toNat≠47:=by
 unfold noSl
 rw [List.all_eq_true]
 constructor
 ·intro h j hj
  have:=of_decide_eq_true (h s[j] (List.getElem_mem hj))
  rw [getD_in hj]
  intro e
  exact this (UInt8.toNat_inj.1 e)
 ·intro h c hc
  obtain⟨j,hj,rfl⟩:=List.getElem_of_mem hc
  have:=h j hj
  rw [getD_in hj] at this
  exact decide_eq_true fun e=>this (by rw [e];rfl)
theorem noSl_ff {s:Bs}{i:Nat}(hi:i < s.length)(h:(s.getD i 0).toNat=47):noSl s=false:=by
 cases hn:noSl s
 ·rfl
 ·exact absurd h (noSl_iff.1 hn i hi)
theorem partB_no {s:Bs}(h:noSl s=false):partB s=false:=by unfold partB;rw [h];rfl
theorem partB_yes {s:Bs}(h:noSl s=true):partB s=decide (1≤s.length∧s.length≤32):=by unfold partB;rw [h];rfl
set_option maxHeartbeats 1000000 in
instance fnTPart {s:Bs}:Ans Tryz.prog GL 211 [str s] True (boo (partB s)):=⟨fun _=>by
 refine spec_enter Tryz.func211 rfl Tryz.ntmps211 rfl (fun _ hs=>?_)
 repeat' first|refine Vz ?_|intro _
 refine al_rangeS (fun g=>?_)
 repeat' first|refine Vz ?_|intro _
 refine ac_loop (α:=Nat) (fun i=>[(0,str s),(6,ptr g)]) (fun i=>[.obj g (.stringIter ⟨s.toArray⟩ i)]) (fun i=>i≤s.length∧∀ j,j < i→(s.getD j 0).toNat≠47) (fun i=>s.length - i) 0 ⟨rfl,rfl,trivial⟩ (List.Sublist.refl _) ⟨Nat.zero_le _,fun _ h=>absurd h (by omega)⟩ ?_
 rintro i ⟨hi,hall⟩
 repeat' first|refine Vz ?_|intro _
 by_cases hlt:i < s.length
 ·obtain⟨w1,w2,w3⟩:=rune_cases hlt
  obtain⟨r1,r2⟩:=rune_byte hlt (show 47 < 128 by decide)
  refine al_nextS (pre:=[]) (post:=[]) hlt rfl ?_
  repeat' first|refine Vz ?_|intro _
  refine ac_cond (fun h=>?_) (fun h=>?_)
  ·repeat' first|refine Vz ?_|intro _
   refine reE ?_
   rw [partB_no (noSl_ff hlt (r1.1 (by omega)))]
   rfl
  ·repeat' first|refine Vz ?_|intro _
   refine ae_round (i + (runeAt s i).2) ⟨rfl,rfl,trivial⟩ (List.Sublist.refl _) ⟨w2,fun j hj=>?_⟩ (by omega)
   by_cases hj2:j < i
   ·exact hall j hj2
   ·exact r2 (by omega) j (by omega) hj
 ·refine al_nextE (g:=g) (by omega) (List.mem_singleton.2 rfl) ?_
  have hy:noSl s=true:=noSl_iff.2 fun j hj=>hall j (by omega)
  rw [partB_yes hy]
  rcases s with _|⟨c,s⟩
  ·repeat' first|refine Zz ?_|intro _
   refine reE ?_
   rfl
  ·repeat' first|refine Zz ?_|intro _
   refine reE ?_
   rw [decide_eq_decide.2 (show (1≤(c::s).length∧(c::s).length≤32)↔(((c::s).length:Int)≤32) by rw [List.length_cons];omega)]
   rfl⟩
set_option maxHeartbeats 1000000 in
instance fnRPart {s:Bs}:Ans Tryz.prog GL 246 [str s] (s.length≤4611686018427387904) (boo (partB s)):=⟨fun hl=>by
 refine spec_enter Tryz.func246 rfl Tryz.ntmps246 rfl (fun _ hs=>?_)
 repeat' first|refine Vz ?_|intro _
 refine ac_loop (α:=Nat) (fun i=>[(0,str s),(3,int i)]) (fun i=>[]) (fun i=>i≤s.length∧∀ j,j < i→(s.getD j 0).toNat≠47) (fun i=>s.length - i) 0 ⟨rfl,rfl,trivial⟩ (List.Sublist.refl _) ⟨Nat.zero_le _,fun _ h=>absurd h (by omega)⟩ ?_
 rintro i ⟨hi,hall⟩
 repeat' first|refine Vz ?_|intro _
 refine ac_cond (fun hlt=>?_) (fun hlt=>?_)
 ·have hil:i < s.length:=by omega
  repeat' first|refine Vz ?_|intro _
  refine al_idxS i ?_ (List.getElem?_eq_getElem hil)
  repeat' first|refine Vz ?_|intro _
  refine ac_cond (fun h=>?_) (fun h=>?_)
  ·repeat' first|refine Vz ?_|intro _
   refine reE ?_
   rw [partB_no (noSl_ff hil (by rw [getD_in hil];omega))]
   rfl
  ·repeat' first|refine Vz ?_|intro _
   refine ae_round (i + 1) ⟨rfl,rfl,trivial⟩ (List.Sublist.refl _) ⟨hil,fun j hj=>?_⟩ (by omega)
   by_cases hj2:j < i
   ·exact hall j hj2
   ·obtain rfl:j=i:=by omega
    rw [getD_in hil]
    omega
 ·have hy:noSl s=true:=noSl_iff.2 fun j hj=>hall j (by omega)
  rw [partB_yes hy]
  repeat' first|refine Vz ?_|intro _
  by_cases h1:1≤s.length
  ·repeat' first|refine Zz ?_|intro _
   refine reE ?_
   rw [decide_eq_decide.2 (show (1≤s.length∧s.length≤32)↔((s.length:Int)≤32) by omega)]
   rfl
  ·repeat' first|refine Zz ?_|intro _
   refine reE ?_
   have h0:¬ (1≤s.length∧s.length≤32):=fun h=>h1 h.1
   rw [decide_eq_false h0]
   rfl⟩
theorem splS_ne (s:Bs):splS s≠[]:=by
 cases s with
 | nil=>simp [splS]
 | cons c s=>
  rw [splS]
  split <;> simp
theorem splS_snoc47:∀ s:Bs,splS (s++[47])=splS s++[[]]
 | []=>rfl
 | c::s=>by
  have ih:=splS_snoc47 s
  rw [List.cons_append,splS,splS,ih]
  split
  ·rfl
  ·have hn:=splS_ne s
   cases h:splS s with
   | nil=>exact absurd h hn
   | cons a l=>rfl
theorem splS_snoc {c:UInt8}(hc:c≠47):∀ s:Bs,splS (s++[c])=(splS s).dropLast++[(splS s).getLastD []++[c]]
 | []=>by simp [splS,hc]
 | d::s=>by
  have ih:=splS_snoc hc s
  have hn:=splS_ne s
  rw [List.cons_append,splS,splS,ih]
  cases h:splS s with
  | nil=>exact absurd h hn
  | cons a l=>
   split
   ·cases l <;> simp
   ·cases l <;> simp
theorem splS_last (s:Bs):(splS s).dropLast++[(splS s).getLastD []]=splS s:=by
 have hn:=splS_ne s
 cases h:splS s with
 | nil=>exact absurd h hn
 | cons a l=>
  rw [List.getLastD_cons,← List.getLast_eq_getLastD (h:=by simp)]
  exact List.dropLast_concat_getLast _
theorem splS_len:∀ s:Bs,(splS s).length=s.count 47 + 1
 | []=>rfl
 | c::s=>by
  have ih:=splS_len s
  have hn:=splS_ne s
  rw [splS]
  split
  ·rename_i h
   subst h
   simp [ih]
  ·rename_i h
   rw [List.count_cons_of_ne (by exact h)]
   cases h2:splS s with
   | nil=>exact absurd h2 hn
   | cons a l=>rw [h2] at ih;simpa using ih
theorem splS_part {s x:Bs}(h:x ∈ splS s):x.length≤s.length:=by
 induction s generalizing x with
 | nil=>simp [splS] at h;simp [h]
 | cons c s ih=>
  have hn:=splS_ne s
  rw [splS] at h
  split at h
  ·rcases List.mem_cons.1 h with rfl|h
   ·simp
   ·have:=ih h;simp;omega
  ·cases h2:splS s with
   | nil=>exact absurd h2 hn
   | cons a l=>
    rw [h2] at h
    simp at h
    rcases h with rfl|h
    ·have:=ih (x:=a) (by rw [h2];simp)
     simp
     omega
    ·have:=ih (x:=x) (by rw [h2];simp [h])
     simp
     omega
set_option maxHeartbeats 1000000 in
instance fnRParts {s:Bs}:Ans Tryz.prog GL 326 [str s] (s.length≤1000000000) (.sl 1 ((splS s).map str) none):=⟨fun hl=>by
 refine spec_enter Tryz.func326 rfl Tryz.ntmps326 rfl (fun _ hs=>?_)
 repeat' first|refine Vz ?_|intro _
 refine ac_as 3 (Imp.nil (k:=1)) ?_
 refine ac_st (fun ok w h=>h.full 9 1 none 0) ?_
 refine ac_loop (α:=Nat × Value) (fun q=>[(0,str s),(3,.sl 1 ((splS (s.take q.1)).dropLast.map str) (some q.2)),(4,str ((splS (s.take q.1)).getLastD [])),(5,int q.1)]) (fun q=>[.tail 9 1 q.2]) (fun q=>q.1≤s.length) (fun q=>s.length - q.1) (0,.slice none 0 0) ⟨rfl,rfl,rfl,rfl,trivial⟩ (List.Sublist.refl _) (Nat.zero_le _) ?_
 rintro⟨i,v⟩ hi
 dsimp only at hi ⊢
 have hlen:=splS_len (s.take i)
 have hcnt:=List.count_le_length (l:=s.take i) (a:=(47:UInt8))
 have htl:(s.take i).length≤s.length:=List.length_take_le' _ _
 have hlast:((splS (s.take i)).getLastD []).length≤s.length:=by
  have h:=splS_last (s.take i)
  refine Nat.le_trans (splS_part (s:=s.take i) ?_) htl
  rw [← h]
  simp
 have hm:((splS (s.take i)).dropLast.map str).length≤1000000001:=by rw [List.length_map,List.length_dropLast];omega
 repeat' first|refine Vz ?_|intro _
 refine ac_cond (fun hlt=>?_) (fun hlt=>?_)
 ·have hil:i < s.length:=by omega
  have htk:s.take (i + 1)=s.take i++[s[i]]:=List.take_succ_eq_append_getElem hil
  repeat' first|refine Vz ?_|intro _
  refine al_idxS i ?_ (List.getElem?_eq_getElem hil)
  repeat' first|refine Vz ?_|intro _
  refine ac_cond (fun h=>?_) (fun h=>?_)
  ·have h47:s[i]=47:=UInt8.toNat_inj.1 (by show _=47;omega)
   have hsp:splS (s.take (i + 1))=splS (s.take i)++[[]]:=by rw [htk,h47,splS_snoc47]
   repeat' first|refine Vz ?_|intro _
   refine al_append (fun v'=>?_)
   repeat' first|refine Vz ?_|intro _
   have e1:(splS (s.take (i + 1))).dropLast.map str=(splS (s.take i)).dropLast.map str++[str ((splS (s.take i)).getLastD [])]:=by
    rw [hsp,List.dropLast_concat]
    conv=>lhs;rw [← splS_last (s.take i)]
    rw [List.map_append]
    rfl
   have e2:(splS (s.take (i + 1))).getLastD []=[]:=by rw [hsp,List.getLastD_concat]
   rw [← e1]
   refine ae_as 4 (v:=str []) (v':=str ((splS (s.take (i + 1))).getLastD [])) (Imp.of_eq (by rw [e2])) ?_
   refine ae_round (i + 1,v') ⟨rfl,rfl,rfl,rfl,trivial⟩ ?_ hil (by dsimp only;omega)
   exact sbl
  ·have h47:s[i]≠47:=fun e=>h (by rw [e];rfl)
   have hsp:splS (s.take (i + 1))=(splS (s.take i)).dropLast++[(splS (s.take i)).getLastD []++[s[i]]]:=by rw [htk,splS_snoc h47]
   repeat' first|refine Vz ?_|intro _
   refine al_sliceS i (i + 1) ?_
   have hone:(s.take (i + 1)).drop i=[s[i]]:=by
    rw [htk,List.drop_left' (by rw [List.length_take];omega)]
   rw [hone]
   have hl1:[s[i]].length=1:=rfl
   repeat' first|refine Vz ?_|intro _
   have e1:(splS (s.take (i + 1))).dropLast=(splS (s.take i)).dropLast:=by rw [hsp,List.dropLast_concat]
   have e2:(splS (s.take (i + 1))).getLastD []=(splS (s.take i)).getLastD []++[s[i]]:=by rw [hsp,List.getLastD_concat]
   rw [← e1,← e2]
   refine ae_round (i + 1,v) ⟨rfl,rfl,rfl,rfl,trivial⟩ ?_ hil (by dsimp only;omega)
   exact sbl
 ·obtain rfl:i=s.length:=by omega
  simp only [List.take_length] at hlen hcnt hlast hm ⊢
  repeat' first|refine Vz ?_|intro _
  refine al_append (fun v'=>?_)
  repeat' first|refine Vz ?_|intro _
  refine reI ?_
  refine Imp.trans (Imp.of_eq (?_:_=.sl 1 ((splS s).map str) (some v'))) ?_
  ·conv=>rhs;rw [← splS_last s]
   rw [List.map_append]
   rfl
  ·exact Imp.sl⟩
end Go.Proofs.YtppngnhckahbnaaGreatDoor

namespace Go.Proofs.YtppngnhckahbnaaGreatDoor
open Go Go.RowKit Tw Av
def ixS (s:Bs):Nat:=s.findIdx fun c=>decide (c=47)
theorem ixS_lt {s:Bs}:ixS s < s.length↔noSl s=false:=by
 unfold ixS noSl
 rw [List.findIdx_lt_length]
 constructor
 ·rintro⟨x,hx,h⟩
  rw [List.all_eq_false]
  exact⟨x,hx,by simpa using h⟩
 ·intro h
  rw [List.all_eq_false] at h
  obtain⟨x,hx,h⟩:=h
  exact⟨x,hx,by simpa using h⟩
def ixI (s:Bs):Int:=if ixS s < s.length then (ixS s:Int) else -1
theorem ix_lib (s:Bs):Lib.indexByte s 47=ixI s:=by
 induction s with
 | nil=>rfl
 | cons c s ih=>
  rw [Lib.indexByte,ih]
  unfold ixI ixS
  rw [List.findIdx_cons,List.length_cons]
  by_cases h:c=47
  ·subst h
   simp
  ·have h2:(c == 47)=false:=by simpa using h
   rw [h2,decide_eq_false h]
   simp only [Bool.false_eq_true,if_false,cond_false]
   generalize s.findIdx (fun c=>decide (c=47))=k
   by_cases hk:k < s.length
   ·have h3:(((k:Nat):Int) == -1)=false:=by
     rw [beq_eq_false_iff_ne]
     omega
    have h4:k + 1 < s.length + 1:=by omega
    simp only [if_pos hk,if_pos h4,h3]
    simp
   ·have h4:¬ k + 1 < s.length + 1:=by omega
    simp only [if_neg hk,if_neg h4]
    rfl
theorem run_ix (s:Bs)(w:World):(Extern.BytealgIndexByte.indexByte #[sv s,.int .u8 47]).run Tryz.prog w=.ok (.int .i64 (ixI s)) w:=by
 have h:=Lib.run_indexByteString (P:=Tryz.prog) ⟨s.toArray⟩ 47 w
 rw [show (47:Int).toNat.toUInt8=47 from rfl,ix_lib] at h
 exact h
theorem run_cnt (s:Bs)(w:World):(Extern.BytealgCount.count #[sv s,.int .u8 47]).run Tryz.prog w=.ok (.int .i64 (s.count 47:Nat)) w:=
 Lib.run_countString (P:=Tryz.prog) ⟨s.toArray⟩ 47 w
instance fnIxB {s:Bs}:Ans Tryz.prog GL 389 [str s,.lit (u8v 47)] True (int (ixI s)):=⟨fun _=>by
 refine spec_enter Tryz.func389 rfl Tryz.ntmps389 rfl (fun _ hs=>?_)
 repeat' first|refine Vz ?_|intro _
 apply al_ext (v:=int (ixI s)) Tryz.func401;kernel_rfl;exact rfl;kernel_rfl;kernel_rfl;exact rfl;exact rfl;exact rfl
 ·rintro ok w cs _ ⟨u1,us,rfl,h1,u2,us2,rfl,h2,rfl⟩
  rw [RV0.lit h1,RV0.lit h2]
  exact⟨_,run_ix s _,RVl rfl⟩
 repeat' first|refine Vz ?_|intro _
 refine reE ?_
 rfl⟩
instance fnIxL {s:Bs}:Ans Tryz.prog GL 375 [str s,str [47]] True (int (ixI s)):=⟨fun _=>by
 refine spec_enter Tryz.func375 rfl Tryz.ntmps375 rfl (fun _ hs=>?_)
 repeat' first|refine Zz ?_|intro _
 refine ac_cond (fun h=>?_) (fun h=>?_)
 ·repeat' first|refine Zz ?_|intro _
  refine reE ?_
  rw [← h]
  rfl
 have h1:([47]:Bs).length=1:=rfl
 repeat' first|refine Yz ?_|intro _
 refine reE ?_
 rfl⟩
instance fnIx {s:Bs}:Ans Tryz.prog GL 348 [str s,str [47]] True (int (ixI s)):=⟨fun _=>by
 refine spec_enter Tryz.func348 rfl Tryz.ntmps348 rfl (fun _ hs=>?_)
 repeat' first|refine Vz ?_|intro _
 refine reE ?_
 rfl⟩
instance fnContains {s:Bs}:Ans Tryz.prog GL 290 [str s,str [47]] True (boo (!noSl s)):=⟨fun _=>by
 refine spec_enter Tryz.func290 rfl Tryz.ntmps290 rfl (fun _ hs=>?_)
 repeat' first|refine Vz ?_|intro _
 refine reE ?_
 have h:decide (0≤ixI s)=!noSl s:=by
  unfold ixI
  by_cases h:ixS s < s.length
  ·rw [if_pos h,ixS_lt.1 h]
   exact decide_eq_true (by omega)
  ·rw [if_neg h]
   have hn:noSl s=true:=by
    cases hh:noSl s
    ·exact absurd (ixS_lt.2 hh) h
    ·rfl
   rw [hn]
   rfl
 show boo _=_
 rw [h]⟩
instance fnCount {s:Bs}:Ans Tryz.prog GL 288 [str s,str [47]] True (int (s.count 47:Nat)):=⟨fun _=>by
 have h1:([47]:Bs).length=1:=rfl
 refine spec_enter Tryz.func288 rfl Tryz.ntmps288 rfl (fun _ hs=>?_)
 repeat' first|refine Yz ?_|intro _
 apply al_ext (v:=int (s.count 47:Nat)) Tryz.func347;kernel_rfl;exact rfl;kernel_rfl;kernel_rfl;exact rfl;exact rfl;exact rfl
 ·rintro ok w cs _ ⟨u1,us,rfl,h1,u2,us2,rfl,h2,rfl⟩
  rw [RV0.lit h1,RV0.lit h2]
  exact⟨_,run_cnt s _,RVl rfl⟩
 repeat' first|refine Zz ?_|intro _
 refine reE ?_
 rfl⟩
instance fnHasPrefixL {s p:Bs}:Ans Tryz.prog GL 399 [str s,str p] True (boo (decide (s.take p.length=p))):=⟨fun _=>by
 refine spec_enter Tryz.func399 rfl Tryz.ntmps399 rfl (fun _ hs=>?_)
 repeat' first|refine Vz ?_|intro _
 refine gu1 (fun h=>?_) (fun h=>?_)
 ·repeat' first|refine Vz ?_|intro _
  refine al_sliceS 0 p.length ?_
  repeat' first|refine Vz ?_|intro _
  refine reE ?_
  rfl
 ·repeat' first|refine Zz ?_|intro _
  refine reE ?_
  have:¬ s.take p.length=p:=fun e=>by
   have h2:=congrArg List.length e
   rw [List.length_take] at h2
   omega
  rw [decide_eq_false this]
  rfl⟩
instance fnCutPrefixL {s p:Bs}:Ans Tryz.prog GL 396 [str s,str p] True (.tup [str (if s.take p.length=p then s.drop p.length else s),boo (decide (s.take p.length=p))]):=⟨fun _=>by
 refine spec_enter Tryz.func396 rfl Tryz.ntmps396 rfl (fun _ hs=>?_)
 repeat' first|refine Vz ?_|intro _
 refine ac_cond (fun h=>?_) (fun h=>?_)
 ·repeat' first|refine Vz ?_|intro _
  refine reE ?_
  rw [if_neg h,decide_eq_false h]
  rfl
 ·have h':s.take p.length=p:=Classical.not_not.1 h
  have hl:p.length≤s.length:=by
   have h2:=congrArg List.length h'
   rw [List.length_take] at h2
   omega
  repeat' first|refine Vz ?_|intro _
  refine al_sliceS p.length s.length ?_
  repeat' first|refine Vz ?_|intro _
  refine reE ?_
  rw [if_pos h',decide_eq_true h',List.take_length]
  rfl⟩
instance fnCutPrefix {s p:Bs}:Ans Tryz.prog GL 382 [str s,str p] True (.tup [str (if s.take p.length=p then s.drop p.length else s),boo (decide (s.take p.length=p))]):=⟨fun _=>by
 refine spec_enter Tryz.func382 rfl Tryz.ntmps382 rfl (fun _ hs=>?_)
 repeat' first|refine Vz ?_|intro _
 refine reE ?_
 rfl⟩
end Go.Proofs.YtppngnhckahbnaaGreatDoor
