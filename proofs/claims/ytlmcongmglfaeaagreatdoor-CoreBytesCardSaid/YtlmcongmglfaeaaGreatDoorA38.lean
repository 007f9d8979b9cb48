/- chapter 18's world: what a transaction answers; a side behind a step -/
import Derived.Test.YtlmcongmglfaeaaGreatDoorA27
import Derived.Test.YtlmcongmglfaeaaGreatDoorA28
import Derived.Test.YtlmcongmglfaeaaGreatDoorA30
import Derived.Test.YtlmcongmglfaeaaGreatDoorA31
import Derived.Test.YtlmcongmglfaeaaGreatDoorA35
import Derived.Test.YtlmcongmglfaeaaGreatDoorA36
import Derived.Test.YtlmcongmglfaeaaGreatDoorA37
namespace Go.Proofs.YtlmcongmglfaeaaGreatDoor
open Go Go.RowKit Tw Av
def callV (k:Int):AV:=
 if k=1 then fnv 122 [] else if k=2 then fnv 123 [] else if k=3 then fnv 124 [] else if k=4 then fnv 125 [] else if k=5 then fnv 126 [] else if k=6 then fnv 126 [] else if k=7 then fnv 127 [] else if k=8 then fnv 127 [] else if k=9 then fnv 128 [] else if k=10 then fnv 128 [] else if k=11 then fnv 129 [] else if k=12 then fnv 129 [] else if k=13 then fnv 130 [] else if k=14 then fnv 131 [] else if k=15 then fnv 132 [] else if k=16 then fnv 133 [] else .lit .nilFunc
theorem call1:callV 1=fnv 122 []:=rfl
theorem do1 {d:List Ent}{x:TxX}{h t:Int}(e:x.k=1):doR d x h t=fundR d x.x:=by
 unfold doR
 rw [e]
 rfl
theorem call2:callV 2=fnv 123 []:=rfl
theorem do2 {d:List Ent}{x:TxX}{h t:Int}(e:x.k=2):doR d x h t=movR d x.x:=by
 unfold doR
 rw [e]
 rfl
theorem call3:callV 3=fnv 124 []:=rfl
theorem do3 {d:List Ent}{x:TxX}{h t:Int}(e:x.k=3):doR d x h t=creR d x:=by
 unfold doR
 rw [e]
 rfl
theorem call4:callV 4=fnv 125 []:=rfl
theorem do4 {d:List Ent}{x:TxX}{h t:Int}(e:x.k=4):doR d x h t=updR d x t:=by
 unfold doR
 rw [e]
 rfl
theorem call5:callV 5=fnv 126 []:=rfl
theorem do5 {d:List Ent}{x:TxX}{h t:Int}(e:x.k=5):doR d x h t=conR d x t:=by
 unfold doR
 rw [e]
 rfl
theorem call6:callV 6=fnv 126 []:=rfl
theorem do6 {d:List Ent}{x:TxX}{h t:Int}(e:x.k=6):doR d x h t=conR d x t:=by
 unfold doR
 rw [e]
 rfl
theorem call7:callV 7=fnv 127 []:=rfl
theorem do7 {d:List Ent}{x:TxX}{h t:Int}(e:x.k=7):doR d x h t=codR d x t:=by
 unfold doR
 rw [e]
 rfl
theorem call8:callV 8=fnv 127 []:=rfl
theorem do8 {d:List Ent}{x:TxX}{h t:Int}(e:x.k=8):doR d x h t=codR d x t:=by
 unfold doR
 rw [e]
 rfl
theorem call9:callV 9=fnv 128 []:=rfl
theorem do9 {d:List Ent}{x:TxX}{h t:Int}(e:x.k=9):doR d x h t=opnR d x t:=by
 unfold doR
 rw [e]
 rfl
theorem call10:callV 10=fnv 128 []:=rfl
theorem do10 {d:List Ent}{x:TxX}{h t:Int}(e:x.k=10):doR d x h t=opnR d x t:=by
 unfold doR
 rw [e]
 rfl
theorem call11:callV 11=fnv 129 []:=rfl
theorem do11 {d:List Ent}{x:TxX}{h t:Int}(e:x.k=11):doR d x h t=opdR d x t:=by
 unfold doR
 rw [e]
 rfl
theorem call12:callV 12=fnv 129 []:=rfl
theorem do12 {d:List Ent}{x:TxX}{h t:Int}(e:x.k=12):doR d x h t=opdR d x t:=by
 unfold doR
 rw [e]
 rfl
theorem call13:callV 13=fnv 130 []:=rfl
theorem do13 {d:List Ent}{x:TxX}{h t:Int}(e:x.k=13):doR d x h t=sndR d x.x:=by
 unfold doR
 rw [e]
 rfl
theorem call14:callV 14=fnv 131 []:=rfl
theorem do14 {d:List Ent}{x:TxX}{h t:Int}(e:x.k=14):doR d x h t=rcvR d x h t:=by
 unfold doR
 rw [e]
 rfl
theorem call15:callV 15=fnv 132 []:=rfl
theorem do15 {d:List Ent}{x:TxX}{h t:Int}(e:x.k=15):doR d x h t=acksR d x t:=by
 unfold doR
 rw [e]
 rfl
theorem call16:callV 16=fnv 133 []:=rfl
theorem do16 {d:List Ent}{x:TxX}{h t:Int}(e:x.k=16):doR d x h t=timR d x t:=by
 unfold doR
 rw [e]
 rfl
theorem callN {k:Int}(h:¬ (1<=k/\k<=16)):callV k=.lit .nilFunc:=by
 unfold callV
 repeat rw [if_neg (by omega)]
theorem doN {d:List Ent}{x:TxX}{h t:Int}(e:¬ (1<=x.k/\x.k<=16)):doR d x h t=failR d 1:=by
 unfold doR
 repeat rw [if_neg (by omega)]
attribute [local irreducible] clB enB lateP fundR movR creR updR conR codR opnR opdR sndR rcvR acksR timR callV doR
section
variable {P:Program} {N:Nat} {ops:Array Oper} {Q:Exit->Act->World->Prop} {rest:List Oper} {s:Av.Base} {e:Av.Env} {m:List Av.Piece} {d:Nat} {ty:TypeId} {pos:String} {af:Array Edge}
def isFn:Option TypeDesc->Bool
 | some (.func _ _ _)=>true
 | _=>false
theorem isFn_out {o:Option TypeDesc}(h:isFn o=true):∃ A B C,o=some (.func A B C):=by
 unfold isFn at h
 split at h
 ·exact⟨_,_,_,rfl⟩
 ·cases h
theorem al_fnNF {op:BinOp}{T yT:TypeId}(hT:isFn (P.underlying T)=true){x y:Operand}{f:FuncId}{cs:List Value}{c:Bool}(h:AL P N ops Q s rest ((d,boo c)::e) m)(hx:Av.ev e x=some (fnv f cs):=by exact rfl)(hy:Av.ev e y=some (.lit .nilFunc):=by exact rfl)(hc:eqs op false=some c:=by exact rfl)(hd:Nat.blt d N=true:=by exact rfl):AL P N ops Q s (⟨some d,.binOp op T x y yT,ty,pos,af,none⟩::rest) e m:=
 al_lit rfl (fun ok w A hA=>by
  obtain⟨_,_,_,ht⟩:=isFn_out hT
  exact run_eqs (hA.lit hx) (hA.lit hy) (by simp) (by simp) (by simp) (by simp) (by unfold eqGuard;cases op <;> rfl) (by
  have h:∀ d:Nat,(Op.equalIn (d + 1) T (.func (.func f) #[] cs.toArray) .nilFunc).run P w=.ok false w:=fun d=>by simp [Op.equalIn,run_underlying ht]
  exact h 9999) hc) hd h
end
theorem kinds {k:Int}(h:1<=k/\k<=16):k=1\/k=2\/k=3\/k=4\/k=5\/k=6\/k=7\/k=8\/k=9\/k=10\/k=11\/k=12\/k=13\/k=14\/k=15\/k=16:=by omega
set_option maxHeartbeats 2000000 in
instance fnCoCall {k:Int}:Ans Tryz.prog GL 48 [int k] True (callV k):=⟨fun _=>by
 refine qE Tryz.func48 rfl Tryz.ntmps48 rfl (fun _ hs=>?_)
 by_cases h:1<=k/\k<=16
 ·rcases kinds h with rfl|rfl|rfl|rfl|rfl|rfl|rfl|rfl|rfl|rfl|rfl|rfl|rfl|rfl|rfl|rfl
  all_goals
   repeat' first|refine Zz ?_|intro _
   refine reE ?_
   first|exact call1.symm|exact call2.symm|exact call3.symm|exact call4.symm|exact call5.symm|exact call6.symm|exact call7.symm|exact call8.symm|exact call9.symm|exact call10.symm|exact call11.symm|exact call12.symm|exact call13.symm|exact call14.symm|exact call15.symm|exact call16.symm
 ·repeat' first|refine Zz ?_|intro _
  refine reE ?_
  exact (callN h).symm⟩
end Go.Proofs.YtlmcongmglfaeaaGreatDoor

namespace Go.Proofs.YtlmcongmglfaeaaGreatDoor
open Go Go.RowKit Tw Av
theorem tellR_dok {d:List Ent}{r:List Ent × Int}{p:Rep}(h:DOk d)(hr:DOk r.1):DOk (tellR d r p).1:=by
 unfold tellR failR
 split
 ·exact hr
 ·exact h
theorem putsR_dok {d:List Ent}{k v:Bs}(h:DOk d):DOk (putsR d k v).1:=tellR_dok h (putR_dok h)
theorem begR_dok {d:List Ent}{x:TxX}{i k:Bs}{b:Bool}{t:Int}(h:DOk d):DOk (begR d x i k b t).1:=by
 unfold begR
 repeat' (first|exact h|exact putsR_dok h|split)
theorem joiR_dok {d:List Ent}{x:TxX}{own:EndX}{i k:Bs}{b:Bool}{t:Int}(h:DOk d):DOk (joiR d x own i k b t).1:=by
 cases b
 ·rw [joi_f]
  unfold joiQ
  split
  ·exact h
  ·split
   ·exact h
   ·exact putsR_dok h
 ·rw [joi_t]
  unfold joiQ
  split
  ·exact h
  ·split
   ·exact h
   ·exact putsR_dok h
theorem endR_dok {d:List Ent}{x:Pkt}{b:Bool}{e:Int}(h:DOk d):DOk (endR d x b e).1:=by
 unfold endR
 split
 ·exact h
 split
 ·exact h
 split
 ·exact h
 split
 ·exact h
 refine DOk.drp ?_ _
 split
 ·exact backR_dok h
 ·exact h
section
variable {d:List Ent} {x:TxX} {h t:Int} (hd:DOk d)
include hd
theorem fundR_dok:DOk (fundR d x.x).1:=by
 unfold fundR
 split
 ·exact hd
 ·exact tellR_dok hd (mintR_dok hd)
theorem movR_dok:DOk (movR d x.x).1:=by
 unfold movR
 split
 ·exact hd
 ·exact tellR_dok hd (moveR_dok hd)
theorem creR_dok:DOk (creR d x).1:=by
 unfold creR
 split
 ·exact hd
 ·split
  ·exact hd
  ·split
   ·exact hd
   ·exact putsR_dok hd
theorem updR_dok:DOk (updR d x t).1:=by
 unfold updR
 split
 ·exact hd
 ·split
  ·exact hd
  ·exact putsR_dok hd
theorem conR_dok:DOk (conR d x t).1:=by
 unfold conR
 split
 ·exact hd
 ·split
  ·exact hd
  ·split
   ·exact hd
   ·exact begR_dok hd
theorem codR_dok:DOk (codR d x t).1:=by
 unfold codR
 split
 ·exact hd
 ·exact joiR_dok hd
theorem opnR_dok:DOk (opnR d x t).1:=by
 unfold opnR
 split
 ·exact hd
 ·split
  ·exact hd
  ·split
   ·exact hd
   ·split
    ·exact hd
    ·exact begR_dok hd
theorem opdR_dok:DOk (opdR d x t).1:=by
 unfold opdR
 split
 ·exact hd
 ·exact joiR_dok hd
theorem sndR_dok:DOk (sndR d x.x).1:=by
 unfold sndR
 split
 ·exact hd
 ·split
  ·exact hd
  ·split
   ·exact hd
   ·split
    ·exact hd
    ·exact tellR_dok hd (thenR_dok hd (fun d h=>sendR_dok h) (fun d h=>thenR_dok h (fun d h=>putR_dok h) (fun d h=>putR_dok h)))
theorem rcvR_dok:DOk (rcvR d x h t).1:=by
 have h1:DOk (if (recvR d x.x).2=0 then (recvR d x.x).1 else d):=by
  split
  ·exact recvR_dok hd
  ·exact hd
 unfold rcvR
 generalize (if (recvR d x.x).2=0 then (recvR d x.x).1 else d)=D at *
 split
 ·exact hd
 split
 ·exact hd
 split
 ·exact hd
 split
 ·exact hd
 split
 ·exact hd
 split
 ·exact hd
 exact tellR_dok hd (putR_dok h1)
theorem acksR_dok:DOk (acksR d x t).1:=by
 unfold acksR
 split
 ·exact hd
 ·exact endR_dok hd
theorem timR_dok:DOk (timR d x t).1:=by
 unfold timR
 split
 ·exact hd
 ·exact endR_dok hd
theorem doR_dok:DOk (doR d x h t).1:=by
 by_cases hk:1<=x.k/\x.k<=16
 rotate_left
 ·rw [doN hk]
  exact hd
 rcases kinds hk with e|e|e|e|e|e|e|e|e|e|e|e|e|e|e|e
 ·rw [do1 e]
  exact fundR_dok hd
 ·rw [do2 e]
  exact movR_dok hd
 ·rw [do3 e]
  exact creR_dok hd
 ·rw [do4 e]
  exact updR_dok hd
 ·rw [do5 e]
  exact conR_dok hd
 ·rw [do6 e]
  exact conR_dok hd
 ·rw [do7 e]
  exact codR_dok hd
 ·rw [do8 e]
  exact codR_dok hd
 ·rw [do9 e]
  exact opnR_dok hd
 ·rw [do10 e]
  exact opnR_dok hd
 ·rw [do11 e]
  exact opdR_dok hd
 ·rw [do12 e]
  exact opdR_dok hd
 ·rw [do13 e]
  exact sndR_dok hd
 ·rw [do14 e]
  exact rcvR_dok hd
 ·rw [do15 e]
  exact acksR_dok hd
 ·rw [do16 e]
  exact timR_dok hd
end

structure SideX where
 n:Bs
 d:List Ent
 h:Int
 t:Int
 p:List (List Ent)
 ts:List Int
 s:List Pkt
 g:List Pkt
 a:List Bs
def nmK (i:Bool):Bs:=if i=true then [107,98] else [107,97]
def nmN (i:Bool):Bs:=if i=true then [110,98] else [110,97]
def nmH (i:Bool):Bs:=if i=true then [99,98] else [99,97]
def rootD (d:List Ent):Hsh:=topH d.length (treeH (d.map leafH))
def hdrX (y:SideX)(h:Int):Hdr:=⟨y.n,h,y.ts.getD (h - 1).toNat 0,rootD (y.p.getD (h - 1).toNat [])⟩
def cutX (x:SideX)(t:Int):SideX:={ x with h:=x.h + 1,t:=max x.t t,p:=x.p++[x.d],ts:=x.ts++[max x.t t] }
def putX (x:SideX)(k v:Bs):SideX:=if (putR x.d k v).2=0 then { x with d:=(putR x.d k v).1 } else x
def knX (x:SideX)(i:Bool):Int:=(latC (clR x.d (nmK i)).l).h
def pastX (y:SideX)(k:Int):List Ent:=if 1<=k/\k<=y.p.length then y.p.getD (k - 1).toNat [] else []
def memK (d:List Ent)(k:Bs):Prf:=memP d (fndAt d k) (fndIs d k)
def absK (d:List Ent)(k:Bs):Gp:=absG d (fndAt d k) (fndIs d k)
def txK (n k:Int):TxX:=⟨n,[],[],[],[],[],0,zeroHd,zeroH,zeroPk,[],k,zeroP,zeroG⟩
def hanX (i:Bool)(n k:Int)(past:List Ent):TxX:=
 if 6 < n then ⟨n + 3,nmH i,nmN i,nmH (!i),nmN (!i),[],0,zeroHd,zeroH,zeroPk,[],k,memK past (kyO [72] (nmH (!i))),zeroG⟩
 else ⟨n + 3,nmN i,nmK i,nmN (!i),nmK (!i),[],0,zeroHd,zeroH,zeroPk,[],k,memK past (kyO [75] (nmN (!i))),zeroG⟩
def pickI (n many:Int):Int:=((n.tmod many) + many).tmod many
def atPk (l:List Pkt)(n:Int):Pkt:=l.getD (pickI n l.length).toNat zeroPk
def ackTo (g:List Pkt)(a:List Bs)(p:Pkt):Nat->Bs
 | 0=>[43]
 | n + 1=>if g.getD n zeroPk=p then a.getD n [] else ackTo g a p n
def recX (y:SideX)(n k:Int)(past:List Ent):TxX:=
 if y.s=[] then txK 14 k else { txK 14 k with x:=atPk y.s n,f:=memK past (kyW [80] (atPk y.s n).s (atPk y.s n).q) }
def ackX (x y:SideX)(n k:Int)(past:List Ent):TxX:=
 if x.s=[] then txK 15 k else { txK 15 k with x:=atPk x.s n,a:=ackTo y.g y.a (atPk x.s n) y.g.length,f:=memK past (kyW [71] (atPk x.s n).k (atPk x.s n).q) }
def timX (x:SideX)(n k:Int)(past:List Ent):TxX:=
 if x.s=[] then txK 16 k else { txK 16 k with x:=atPk x.s n,g:=absK past (kyW [71] (atPk x.s n).k (atPk x.s n).q) }
def inc0 (a:Wd):Wd:=wOf (wj ((lm a.n 0 + 1) % 18446744073709551616) (lm a.n 1) (lm a.n 2) (lm a.n 3))
theorem hx0_len (h:Hsh):((h.l.set 0 (h.l.getD 0 0 ^^^ 1))).length=32:=by rw [List.length_set,h.len]
def hx0 (h:Hsh):Hsh:=⟨h.l.set 0 (h.l.getD 0 0 ^^^ 1),hx0_len h⟩
def spoX (n:Int)(x:TxX):TxX:=
 if n=1 then { x with t:=x.t + 1 } else if n=2 then { x with x:={ x.x with a:=inc0 x.x.a } } else if n=3 then { x with f:={ x.f with a:=x.f.a + 1 } }
 else if n=4 then { x with m:=hx0 x.m } else if n=5 then { x with a:=failB 16 } else if n=6 then { x with p:=[122,122] } else x
structure StpX where
 i:Int
 k:Int
 n:Int
 a:Int
 t:Int
 s:Int
def sndX (i b:Bool)(k t a lt:Int):TxX:=
 { txK 13 k with x:=⟨0,nmH i,[],if b=true then nmH i++[47,120] else [120],wOf (1 + a).toNat,if b=true then [99,97,116] else [97,110,110],if b=true then [100,97,110] else [99,97,116],k + 2 + t % 4,if b=true then lt + 1 + t % 8 else 0⟩ }
def txN (i:Bool)(x y:SideX)(n:Int)(s:StpX):TxX:=
 if n=1 then { txK 4 (knX x i) with i:=nmK i,h:=hdrX y y.h,m:=sealOf ([107,101,121]++y.n) (hdrX y y.h) }
 else if n=2 then { txK 5 (knX x i) with i:=nmN i,o:=nmK i,q:=nmK (!i) }
 else if n=6 then { txK 9 (knX x i) with i:=nmH i,o:=nmN i,q:=nmN (!i) }
 else if 3<=n/\n<=9 then hanX i n (knX x i) (pastX y (knX x i))
 else if n=10 then sndX i false (knX x i) s.t (s.a % 8) y.t
 else if n=11 then sndX i true (knX x i) s.t (s.a % 8) y.t
 else if n=12 then recX y s.n (knX x i) (pastX y (knX x i))
 else if n=13 then ackX x y s.n (knX x i) (pastX y (knX x i))
 else if n=14 then timX x s.n (knX x i) (pastX y (knX x i))
 else if n=15 then { txK (1 + s.n % 2) (knX x i) with x:=⟨0,[],[],[120],wOf (s.a % 8).toNat,[97,110,110],[99,97,116],0,0⟩ }
 else txK 0 (knX x i)
def txX (i:Bool)(x y:SideX)(s:StpX):TxX:=spoX (s.s % 16) (txN i x y (s.k % 16) s)
def sentX (d:List Ent)(x:Pkt)(r:Rep):Pkt:={ x with q:=r.q,k:=(enR d [72] x.s).p }
def aftX (x:SideX)(t:Int)(z:TxX)(d:List Ent)(r:Rep):SideX:=
 if z.k=0 then cutX x (x.t + t % 4)
 else if r.e≠0 then x
 else if z.k=13 then { x with d:=d,s:=x.s++[sentX d z.x r] }
 else if z.k=14 then { x with d:=d,g:=x.g++[z.x],a:=x.a++[r.a] }
 else { x with d:=d }
def minD:List Ent:=(mintR (mintR [] [97,110,110] [120] (wOf 50)).1 [98,111,98] [121] (wOf 9)).1
def cutS (i:Bool):SideX:=cutX ⟨if i=true then [98] else [97],minD,0,0,[],[],[],[],[]⟩ 1
def clS (i:Bool):Cli:=newR ([107,101,121]++(cutS (!i)).n) 1000 (hdrX (cutS (!i)) 1)
def freS (i:Bool):SideX:=putX (cutS i) (kyO [67] (nmK i)) (cliB (clS i))
def conE (i:Bool):EndX:=⟨3,nmK i,nmK (!i),nmN (!i)⟩
def chaX (i:Bool):EndX:=⟨3,nmN i,nmN (!i),nmH (!i)⟩
def opeS (i:Bool):SideX:=putX (putX (freS i) (kyO [75] (nmN i)) (enxB (conE i))) (kyO [72] (nmH i)) (enxB (chaX i))
structure PkB (p:Pkt):Prop where
 s:p.s.length<=400000000
 k:p.k.length<=400000000
 d:p.d.length<=400000000
 f:p.f.length<=400000000
 g:p.g.length<=400000000
 q:p.q<=9223372036854775807
 h:p.h<=9223372036854775807
 t:p.t<=9223372036854775807
structure SOk (N:Nat)(x:SideX):Prop where
 n:x.n.length=1
 d:DOk x.d
 h:x.h=x.p.length
 h1:1<=x.p.length
 hN:x.p.length<=1 + N
 t:0<=x.t/\x.t<=1 + 3 * N
 p:∀ q ∈ x.p,DOk q
 tl:x.ts.length=x.p.length
 ts:∀ t ∈ x.ts,0<=t/\t<=1 + 3 * N
 s:∀ p ∈ x.s,PkB p
 sl:x.s.length<=N
 g:∀ p ∈ x.g,PkB p
 gl:x.g.length<=N
 a:∀ p ∈ x.a,p.length<=400000000
 al:x.a.length=x.g.length

structure IdS where
 p:Value
 t:Value
 s:Value
 g:Value
 a:Value
abbrev nmA (i:Bool):AV:=.agg 3 [str (nmK i),str (nmN i),str (nmH i)]
abbrev sdA (x:SideX)(I:IdS):AV:=.agg 9 [str x.n,.sl 2 (x.d.map entA) none,int x.h,int x.t,.sl 1 (x.p.map dSl) (some I.p),.sl 1 (x.ts.map fun t:Int=>int t) (some I.t),.sl 12 (x.s.map pktA) (some I.s),.sl 12 (x.g.map pktA) (some I.g),.sl 1 (x.a.map str) (some I.a)]
abbrev wdA (a b:SideX)(I J:IdS):AV:=.agg 18 [.agg 18 [sdA a I,sdA b J]]
abbrev stpA (s:StpX):AV:=.agg 6 [int s.i,int s.k,int s.n,int s.a,int s.t,int s.s]
abbrev tlS (I:IdS):List Av.Piece:=[.tail 24 1 I.p,.tail 3 1 I.t,.tail 47 12 I.s,.tail 47 12 I.g,.tail 9 1 I.a]
instance fnWNames0:Ans Tryz.prog GL 17 [int 0] True (nmA false):=⟨fun _=>by
 refine qE Tryz.func17 rfl Tryz.ntmps17 rfl (fun _ hs=>?_)
 repeat' first|refine Zz ?_|intro _
 refine reE ?_
 rfl⟩
instance fnWNames1:Ans Tryz.prog GL 17 [int 1] True (nmA true):=⟨fun _=>by
 refine qE Tryz.func17 rfl Tryz.ntmps17 rfl (fun _ hs=>?_)
 repeat' first|refine Zz ?_|intro _
 refine reE ?_
 rfl⟩
theorem pick_lt (n:Int){m:Int}(h:1<=m):0<=pickI n m/\pickI n m < m:=by
 unfold pickI
 have h1:=Int.lt_tmod_of_pos n (b:=m) (by omega)
 have h2:0<=n.tmod m + m:=by omega
 exact⟨Int.tmod_nonneg _ h2,Int.tmod_lt_of_pos _ (by omega)⟩
instance fnWPick {n m:Int}:Ans Tryz.prog GL 18 [int n,int m] (1<=m/\m<=1000000) (int (pickI n m)):=⟨fun hp=>by
 obtain⟨h1,h2⟩:=hp
 have h3:=Int.lt_tmod_of_pos n (b:=m) (by omega)
 have h4:=Int.tmod_lt_of_pos n (b:=m) (by omega)
 refine qE Tryz.func18 rfl Tryz.ntmps18 rfl (fun _ hs=>?_)
 repeat' first|refine Zz ?_|intro _
 refine al_tmod ?_
 repeat' first|refine Zz ?_|intro _
 have hq:0<=n.tmod m + m:=by omega
 refine reE ?_
 show int ((n.tmod m + m) % m)=int (pickI n m)
 unfold pickI
 rw [Int.tmod_eq_emod_of_nonneg hq]⟩
theorem rootD_eq (d:List Ent):rootD d=topH d.length (treeH (d.map leafH)):=rfl
attribute [local irreducible] rootD
instance fnWHeader {x:SideX}{I:IdS}{h:Int}:Ans Tryz.prog GL 43 [sdA x I,int h] ((1<=h/\h<=x.p.length)/\(x.p.length<=1000000/\x.ts.length=x.p.length)/\∀ q ∈ x.p,q.length<=1000000) (hdrA (hdrX x h)):=⟨fun hp=>by
 obtain⟨⟨h1,h2⟩,⟨h6,h3⟩,h4⟩:=hp
 obtain⟨i,hi⟩:∃ i:Nat,h - 1=(i:Int):=⟨(h - 1).toNat,by omega⟩
 have hi1:i < x.p.length:=by omega
 have hi2:i < x.ts.length:=by omega
 have h5:=h4 _ (List.getElem_mem hi1)
 have e:hdrX x h=⟨x.n,h,x.ts[i],rootD x.p[i]⟩:=by
  unfold hdrX
  rw [hi]
  simp [List.getD,hi1,hi2]
 rw [e]
 refine qE Tryz.func43 rfl Tryz.ntmps43 rfl (fun _ hs=>?_)
 repeat' first|refine Zz ?_|intro _
 apply obl_read [];exact rfl;exact rfl;kernel_rfl;intro _ _
 refine al_idxM (l:=x.ts) (f:=fun t:Int=>int t) i hi2 ?_
 exact al_nil (ae_got rfl rfl)
 repeat' first|refine Zz ?_|intro _
 apply obl_read [];exact rfl;exact rfl;kernel_rfl;intro _ _
 refine al_idxM (l:=x.p) (f:=dSl) i hi1 ?_
 exact al_nil (ae_got rfl rfl)
 repeat' first|refine Zz ?_|intro _
 refine reE ?_
 rw [rootD_eq]
 rfl⟩
instance fnWPut {x:SideX}{I:IdS}{k v:Bs}:Ans Tryz.prog GL 72 [sdA x I,str k,str v] (DOk x.d) (sdA (putX x k v) I):=⟨fun hd=>by
 refine qE Tryz.func72 rfl Tryz.ntmps72 rfl (fun _ hs=>?_)
 repeat' first|refine Zz ?_|intro _
 unfold putX
 by_cases h:(putR x.d k v).2=0
 ·rw [if_pos h]
  repeat' first|refine Zz ?_|intro _
  refine reE ?_
  rfl
 ·rw [if_neg h]
  repeat' first|refine Zz ?_|intro _
  refine reE ?_
  rfl⟩
theorem fnWCut {x:SideX}{I:IdS}{t:Int}(h1:0<=x.h/\x.h<=1000000)(h2:x.p.length<=1000000)(h3:x.ts.length<=1000000):Av.Spec Tryz.prog GL 53 [sdA x I,int t] (tlS I) fun u m=>∃ vp vt,u=sdA (cutX x t) { I with p:=vp,t:=vt }/\m=tlS { I with p:=vp,t:=vt }:=by
 have hm1:(x.p.map dSl).length=x.p.length:=llm _
 have hm2:(x.ts.map fun t:Int=>int t).length=x.ts.length:=llm _
 refine qE Tryz.func53 rfl Tryz.ntmps53 rfl (fun _ hs=>?_)
 by_cases hc:x.t < t
 ·have hx:max x.t t=t:=by omega
  have e:cutX x t=⟨x.n,x.d,x.h + 1,t,x.p++[x.d],x.ts++[t],x.s,x.g,x.a⟩:=by unfold cutX;rw [hx]
  rw [e]
  repeat' first|refine Zz ?_|intro _
  refine al_append (fun vp=>?_)
  repeat' first|refine Zz ?_|intro _
  refine al_append (fun vt=>?_)
  repeat' first|refine Zz ?_|intro _
  refine reK (tlS { I with p:=vp,t:=vt }) ⟨vp,vt,?_,rfl⟩ ?_
  ·show AV.agg 9 _=AV.agg 9 _
   rw [List.map_append,List.map_append]
   rfl
  ·exact sbl
 ·have hx:max x.t t=x.t:=by omega
  have e:cutX x t=⟨x.n,x.d,x.h + 1,x.t,x.p++[x.d],x.ts++[x.t],x.s,x.g,x.a⟩:=by unfold cutX;rw [hx]
  rw [e]
  repeat' first|refine Zz ?_|intro _
  refine al_append (fun vp=>?_)
  repeat' first|refine Zz ?_|intro _
  refine al_append (fun vt=>?_)
  repeat' first|refine Zz ?_|intro _
  refine reK (tlS { I with p:=vp,t:=vt }) ⟨vp,vt,?_,rfl⟩ ?_
  ·show AV.agg 9 _=AV.agg 9 _
   rw [List.map_append,List.map_append]
   rfl
  ·exact sbl
end Go.Proofs.YtlmcongmglfaeaaGreatDoor

namespace Go.Proofs.YtlmcongmglfaeaaGreatDoor
open Go Go.RowKit Tw Av
def fQ (e:Int):Out18:=([],repE e)
def pQ (d:List Ent)(k v:Bs):Out18:=if (putR d k v).2=0 then ((putR d k v).1,rep0) else fQ (putR d k v).2
def coinQ (d:List Ent)(x:TxX):Out18:=if denB x.x.d=false\/plainB x.x.g=false\/(x.k=1/\0 < hopN x.x.d)\/(x.k=2/\plainB x.x.f=false) then fQ 1 else if x.k=1 then ((mintR d x.x.g x.x.d x.x.a).1,repE (mintR d x.x.g x.x.d x.x.a).2) else ((moveR d x.x.f x.x.g x.x.d x.x.a).1,repE (moveR d x.x.f x.x.g x.x.d x.x.a).2)
def cliQ (d:List Ent)(x:TxX)(t:Int):Out18:=
 if x.k=4 then (if clB d x.i=false then fQ 12 else if updE (clR d x.i) x.h x.m t≠0 then fQ (updE (clR d x.i) x.h x.m t) else pQ d (kyO [67] x.i) (cliB (updC (clR d x.i) x.h x.m t)))
 else if partB x.i=false then fQ 1 else if clB d x.i=true then fQ 13 else if newE x.y x.e x.h≠0 then fQ (newE x.y x.e x.h) else pQ d (kyO [67] x.i) (cliB (newR x.y x.e x.h))
def begP (d:List Ent)(x:TxX)(i k:Bs)(try':Bool)(t:Int):Out18:=
 if try'=false then (if (initE x.o x.q).2≠0 then fQ (initE x.o x.q).2 else pQ d (kyO k x.i) (enxB (initE x.o x.q).1))
 else if prE d i x.t t (kyO k x.p) (enxB ⟨1,x.q,x.o,[]⟩) x.f≠0 then fQ (prE d i x.t t (kyO k x.p) (enxB ⟨1,x.q,x.o,[]⟩) x.f)
 else if (tryE x.o x.p ⟨1,x.q,x.o,[]⟩).2≠0 then fQ (tryE x.o x.p ⟨1,x.q,x.o,[]⟩).2
 else pQ d (kyO k x.i) (enxB (tryE x.o x.p ⟨1,x.q,x.o,[]⟩).1)
def begK (d:List Ent)(x:TxX)(b:Bool)(t:Int):Out18:=if partB x.i=false then fQ 1 else if enB d [75] x.i=true then fQ 13 else if clB d x.o=false then fQ 12 else begP d x x.o [75] b t
def begH (d:List Ent)(x:TxX)(b:Bool)(t:Int):Out18:=if partB x.i=false then fQ 1 else if enB d [72] x.i=true then fQ 13 else if enB d [75] x.o=false then fQ 12 else if (enR d [75] x.o).s≠3 then fQ 13 else begP d x (enR d [75] x.o).o [72] b t
def joiP (d:List Ent)(x:TxX)(i k pp:Bs)(th:EndX)(r:EndX × Int)(t:Int):Out18:=if prE d i x.t t (kyO k pp) (enxB th) x.f≠0 then fQ (prE d i x.t t (kyO k pp) (enxB th) x.f) else if r.2≠0 then fQ r.2 else pQ d (kyO k x.i) (enxB r.1)
def joiO (d:List Ent)(x:TxX)(own:EndX)(i k:Bs)(ack:Bool)(t:Int):Out18:=if ack=true then joiP d x i k x.p ⟨2,own.q,own.o,x.i⟩ (ackE own x.i x.p ⟨2,own.q,own.o,x.i⟩) t else joiP d x i k own.p ⟨3,own.q,own.o,x.i⟩ (cnfE own x.i ⟨3,own.q,own.o,x.i⟩) t
def opnK (d:List Ent)(x:TxX)(b:Bool)(t:Int):Out18:=if enB d [75] x.i=false then fQ 12 else joiO d x (enR d [75] x.i) (enR d [75] x.i).o [75] b t
def opnH (d:List Ent)(x:TxX)(b:Bool)(t:Int):Out18:=if enB d [72] x.i=false then fQ 12 else if enB d [75] (enR d [72] x.i).o=false then fQ 12 else joiO d x (enR d [72] x.i) (enR d [75] (enR d [72] x.i).o).o [72] b t

attribute [local irreducible] clB enB
end Go.Proofs.YtlmcongmglfaeaaGreatDoor

namespace Go.Proofs.YtlmcongmglfaeaaGreatDoor
open Go Go.RowKit Tw Av
attribute [local irreducible] clB enB
theorem part_len {s:Bs}(h:partB s=true):s.length<=32:=by
 unfold partB at h
 rw [bet,decide_eq_true_iff] at h
 exact h.2.2
theorem red_len (s:Bs):(redV s).o.length<=32/\(redV s).q.length<=32/\(redV s).p.length<=32/\(redV s).s<=4:=by
 unfold redV
 split
 ·rename_i h
  unfold reOk at h
  rw [bet] at h
  have h:=h.2
  unfold chkE at h
  simp only [Bool.and_eq_true,decide_eq_true_eq] at h
  obtain⟨h1,h2,h3,h4⟩:=h
  refine⟨part_len h2,part_len h3,?_,h1.2⟩
  split at h4
  ·rw [of_decide_eq_true h4]
   simp
  ·exact part_len h4
 ·decide
end Go.Proofs.YtlmcongmglfaeaaGreatDoor

namespace Go.Proofs.YtlmcongmglfaeaaGreatDoor
open Go Go.RowKit Tw Av
theorem lat_rng (d:List Ent)(i:Bs):0<=(latC (clR d i).l).h/\(latC (clR d i).l).h<=1099511627776:=by
 unfold clR
 rcases rcd_or (valE d (kyO [67] i)) with h|h
 ·obtain⟨⟨h1,h2,h3,h4,h5⟩,h6⟩:=all_iff.1 h
  have hne:(rcdV (valE d (kyO [67] i))).l≠[]:=fun e=>by rw [e] at h4;simp at h4
  obtain⟨_,_,c3,c4,_,_⟩:=chkH_iff.1 (may_chk h _ (lat_mem hne))
  exact⟨by simp only [hdOf] at c3;omega,c4⟩
 ·rw [h]
  decide
theorem knX_rng (x:SideX)(i:Bool):0<=knX x i/\knX x i<=1099511627776:=lat_rng _ _
theorem pastX_ok {N:Nat}{y:SideX}(h:SOk N y)(k:Int):DOk (pastX y k):=by
 unfold pastX
 split
 ·rename_i hk
  have hl:(k - 1).toNat < y.p.length:=by omega
  rw [List.getD_eq_getElem?_getD,List.getElem?_eq_getElem hl]
  exact h.p _ (List.getElem_mem hl)
 ·exact .nil
theorem memK_m (d:List Ent)(k:Bs):(memK d k).m=0\/(memK d k).m=d.length:=by
 unfold memK memP
 split
 ·exact .inr rfl
 ·exact .inl rfl
theorem memK_b {d:List Ent}{k:Bs}(h:DOk d):(memK d k).m<=2000:=by
 have hl:=h.l
 rcases memK_m d k with e|e <;> rw [e] <;> omega
theorem absK_b {d:List Ent}{k:Bs}(h:DOk d):(absK d k).a.m<=2000/\(absK d k).b.m<=2000:=by
 have hl:=h.l
 unfold absK absG
 split
 ·decide
 ·dsimp only
  constructor
  ·split
   ·simp only [atP];omega
   ·decide
  ·split
   ·simp only [atP];omega
   ·decide
theorem zeroPk_b:PkB zeroPk:=⟨by decide,by decide,by decide,by decide,by decide,by decide,by decide,by decide⟩
theorem atPk_b {l:List Pkt}(h:∀ p ∈ l,PkB p)(n:Int):PkB (atPk l n):=by
 unfold atPk
 generalize (pickI n l.length).toNat=i
 by_cases hi:i < l.length
 ·rw [List.getD_eq_getElem?_getD,List.getElem?_eq_getElem hi]
  exact h _ (List.getElem_mem hi)
 ·rw [List.getD_eq_getElem?_getD,List.getElem?_eq_none (by omega)]
  exact zeroPk_b
theorem ackTo_b {g:List Pkt}{a:List Bs}(h:∀ p ∈ a,p.length<=400000000)(p:Pkt):∀ n,(ackTo g a p n).length<=400000000
 | 0=>by show 1<=400000000;decide
 | n + 1=>by
  unfold ackTo
  split
  ·by_cases hi:n < a.length
   ·rw [List.getD_eq_getElem?_getD,List.getElem?_eq_getElem hi]
    exact h _ (List.getElem_mem hi)
   ·rw [List.getD_eq_getElem?_getD,List.getElem?_eq_none (by omega)]
    exact Nat.zero_le _
  ·exact ackTo_b h p n
theorem nm_len (i:Bool):(nmK i).length=2/\(nmN i).length=2/\(nmH i).length=2:=by
 cases i <;> decide
theorem txK_b (n k:Int):TxB (txK n k):=⟨Nat.zero_le _,Nat.zero_le _,Nat.zero_le _,Nat.zero_le _,Nat.zero_le _,Nat.zero_le _,Nat.zero_le _,Nat.zero_le _,Nat.zero_le _,Nat.zero_le _,Nat.zero_le _,by show (0:Int)<=_;decide,by show (0:Int)<=_;decide,by show (0:Int)<=_;decide,by show (0:Int)<=_/\(0:Int)<=_;decide⟩
theorem hdrX_b {N:Nat}{y:SideX}(h:SOk N y)(hN:N<=1000):(hdrX y y.h).h<=9223372036854775807/\(hdrX y y.h).t<=9223372036854775807:=by
 have h1:=h.h
 have h2:=h.hN
 refine⟨by simp only [hdrX];omega,?_⟩
 simp only [hdrX]
 by_cases hi:(y.h - 1).toNat < y.ts.length
 ·rw [List.getD_eq_getElem?_getD,List.getElem?_eq_getElem hi]
  have:=(h.ts _ (List.getElem_mem hi)).2
  simp only [Option.getD_some]
  omega
 ·rw [List.getD_eq_getElem?_getD,List.getElem?_eq_none (by omega)]
  decide
theorem hanX_b {N:Nat}{y:SideX}(h:SOk N y)(i:Bool)(n k:Int):TxB (hanX i n k (pastX y k)):=by
 have n1:=nm_len i
 have n2:=nm_len (!i)
 unfold hanX
 split
 ·have hm:=memK_b (k:=kyO [72] (nmH (!i))) (pastX_ok h k)
  exact⟨by show (nmH i).length<=_;omega,by show (nmN i).length<=_;omega,by show (nmH (!i)).length<=_;omega,by show (nmN (!i)).length<=_;omega,Nat.zero_le _,Nat.zero_le _,Nat.zero_le _,Nat.zero_le _,Nat.zero_le _,Nat.zero_le _,Nat.zero_le _,by show (0:Int)<=_;decide,by show (0:Int)<=_;decide,Int.le_trans hm (by decide),by show (0:Int)<=_/\(0:Int)<=_;decide⟩
 ·have hm:=memK_b (k:=kyO [75] (nmN (!i))) (pastX_ok h k)
  exact⟨by show (nmN i).length<=_;omega,by show (nmK i).length<=_;omega,by show (nmN (!i)).length<=_;omega,by show (nmK (!i)).length<=_;omega,Nat.zero_le _,Nat.zero_le _,Nat.zero_le _,Nat.zero_le _,Nat.zero_le _,Nat.zero_le _,Nat.zero_le _,by show (0:Int)<=_;decide,by show (0:Int)<=_;decide,Int.le_trans hm (by decide),by show (0:Int)<=_/\(0:Int)<=_;decide⟩
theorem sndX_b (i b:Bool)(k t a lt:Int):TxB (sndX i b k t a lt):=by
 have n1:=nm_len i
 refine⟨Nat.zero_le _,Nat.zero_le _,Nat.zero_le _,Nat.zero_le _,Nat.zero_le _,Nat.zero_le _,by show (nmH i).length<=_;omega,Nat.zero_le _,?_,?_,?_,by show (0:Int)<=_;decide,by show (0:Int)<=_;decide,by show (0:Int)<=_;decide,by show (0:Int)<=_/\(0:Int)<=_;decide⟩
 ·show (if b=true then nmH i++[47,120] else [120]:Bs).length<=_
  split
  ·rw [lla]
   simp
   omega
  ·decide
 ·show (if b=true then [99,97,116] else [97,110,110]:Bs).length<=_
  split <;> decide
 ·show (if b=true then [100,97,110] else [99,97,116]:Bs).length<=_
  split <;> decide
theorem pkt_b {x:TxX}{p:Pkt}{a:Bs}{f:Prf}{g:Gp}(h:TxB x)(hp:PkB p)(ha:a.length<=400000000)(hf:f.m<=2000)(hg:g.a.m<=2000/\g.b.m<=2000):TxB { x with x:=p,a:=a,f:=f,g:=g }:=
 ⟨h.i,h.o,h.p,h.q,h.y,ha,hp.s,hp.k,hp.d,hp.f,hp.g,h.hh,h.ht,Int.le_trans hf (by decide),Int.le_trans hg.1 (by decide),Int.le_trans hg.2 (by decide)⟩
theorem zg_b:zeroG.a.m<=2000/\zeroG.b.m<=2000:=by decide
theorem zp_b:zeroP.m<=2000:=by decide
theorem recX_b {M N:Nat}{x y:SideX}(hx:SOk M x)(h:SOk N y)(n k l:Int):TxB (recX x n k (pastX y l)):=by
 unfold recX
 split
 ·exact txK_b _ _
 ·exact pkt_b (txK_b 14 k) (atPk_b hx.s n) (Nat.zero_le _) (memK_b (pastX_ok h l)) zg_b
theorem ackX_b {M N:Nat}{x y:SideX}(hx:SOk M x)(h:SOk N y)(n k l:Int):TxB (ackX x y n k (pastX y l)):=by
 unfold ackX
 split
 ·exact txK_b _ _
 ·exact pkt_b (txK_b 15 k) (atPk_b hx.s n) (ackTo_b h.a _ _) (memK_b (pastX_ok h l)) zg_b
theorem timX_b {M N:Nat}{x y:SideX}(hx:SOk M x)(h:SOk N y)(n k l:Int):TxB (timX x n k (pastX y l)):=by
 unfold timX
 split
 ·exact txK_b _ _
 ·exact pkt_b (txK_b 16 k) (atPk_b hx.s n) (Nat.zero_le _) zp_b (absK_b (pastX_ok h l))
theorem txN_b {M N:Nat}{x y:SideX}(hx:SOk M x)(hy:SOk N y)(hN:N<=1000)(i:Bool)(n:Int)(s:StpX):TxB (txN i x y n s):=by
 have n1:=nm_len i
 have n2:=nm_len (!i)
 have hh:=hdrX_b hy hN
 unfold txN
 repeat' split
 ·have h:=txK_b 4 (knX x i)
  exact⟨by show (nmK i).length<=_;omega,h.o,h.p,h.q,h.y,h.a,h.s,h.k,h.d,h.f,h.g,hh.1,hh.2,h.fm,h.gm⟩
 ·have h:=txK_b 5 (knX x i)
  exact⟨by show (nmN i).length<=_;omega,by show (nmK i).length<=_;omega,h.p,by show (nmK (!i)).length<=_;omega,h.y,h.a,h.s,h.k,h.d,h.f,h.g,h.hh,h.ht,h.fm,h.gm⟩
 ·have h:=txK_b 9 (knX x i)
  exact⟨by show (nmH i).length<=_;omega,by show (nmN i).length<=_;omega,h.p,by show (nmN (!i)).length<=_;omega,h.y,h.a,h.s,h.k,h.d,h.f,h.g,h.hh,h.ht,h.fm,h.gm⟩
 ·exact hanX_b hy _ _ _
 ·exact sndX_b _ _ _ _ _ _
 ·exact sndX_b _ _ _ _ _ _
 ·exact recX_b hy hy _ _ _
 ·exact ackX_b hx hy _ _ _
 ·exact timX_b hx hy _ _ _
 ·have h:=txK_b (1 + s.n % 2) (knX x i)
  exact⟨h.i,h.o,h.p,h.q,h.y,h.a,Nat.zero_le _,Nat.zero_le _,by show 1<=400000000;decide,by show 3<=400000000;decide,by show 3<=400000000;decide,h.hh,h.ht,h.fm,h.gm⟩
 ·exact txK_b _ _
theorem txX_b {M N:Nat}{x y:SideX}(hx:SOk M x)(hy:SOk N y)(hN:N<=1000)(i:Bool)(s:StpX):TxB (txX i x y s):=by
 have h:=txN_b hx hy hN i (s.k % 16) s
 unfold txX spoX
 repeat' split
 all_goals first|exact h|exact⟨h.i,h.o,h.p,h.q,h.y,h.a,h.s,h.k,h.d,h.f,h.g,h.hh,h.ht,h.fm,h.gm⟩|exact⟨h.i,h.o,h.p,h.q,h.y,by show (failB 16).length<=_;decide,h.s,h.k,h.d,h.f,h.g,h.hh,h.ht,h.fm,h.gm⟩|exact⟨h.i,h.o,by show 2<=400000000;decide,h.q,h.y,h.a,h.s,h.k,h.d,h.f,h.g,h.hh,h.ht,h.fm,h.gm⟩

structure RepB (r:Rep):Prop where
 q:r.q<=9223372036854775807
 a:r.a.length<=400000000
theorem SOk.mono {M N:Nat}{x:SideX}(h:SOk M x)(hn:M<=N):SOk N x:=
 ⟨h.n,h.d,h.h,h.h1,by have:=h.hN;omega,by have:=h.t;omega,h.p,h.tl,fun t ht=>by have:=h.ts t ht;omega,h.s,by have:=h.sl;omega,h.g,by have:=h.gl;omega,h.a,h.al⟩
theorem cutX_ok {N:Nat}{x:SideX}(h:SOk N x){t:Int}(ht:t<=x.t + 3):SOk (N + 1) (cutX x t):=by
 have h0:=h.t
 have hm:0<=max x.t t/\max x.t t<=1 + 3 * ((N + 1:Nat):Int):=by omega
 refine⟨h.n,h.d,?_,?_,?_,hm,?_,?_,?_,h.s,?_,h.g,?_,h.a,h.al⟩
 ·show x.h + 1=((x.p++[x.d]).length:Int)
  rw [lla,List.length_singleton,h.h]
  rfl
 ·show 1<=(x.p++[x.d]).length
  rw [lla]
  exact Nat.le_add_left _ _
 ·show (x.p++[x.d]).length<=_
  rw [lla,List.length_singleton]
  have:=h.hN
  omega
 ·intro q hq
  rcases List.mem_append.1 hq with hq|hq
  ·exact h.p q hq
  ·rw [List.mem_singleton.1 hq]
   exact h.d
 ·show (x.ts++[_]).length=(x.p++[_]).length
  rw [lla,lla,h.tl]
  rfl
 ·intro u hu
  rcases List.mem_append.1 hu with hu|hu
  ·have:=h.ts u hu
   omega
  ·rw [List.mem_singleton.1 hu]
   exact hm
 ·have:=h.sl
  show x.s.length<=_
  omega
 ·have:=h.gl
  show x.g.length<=_
  omega
theorem pkt_sb {x:Pkt}(h:PkB x){d:List Ent}{r:Rep}(hr:RepB r):PkB (sentX d x r):=by
 have hl:=(red_len (valE d (kyO [72] x.s))).2.2.1
 exact⟨h.s,by show (enR d [72] x.s).p.length<=_;unfold enR;omega,h.d,h.f,h.g,hr.q,h.h,h.t⟩
theorem aftX_ok {N:Nat}{x:SideX}(h:SOk N x){t:Int}{z:TxX}{d:List Ent}{r:Rep}(hz:PkB z.x)(hd:DOk d)(hr:RepB r):SOk (N + 1) (aftX x t z d r):=by
 have hm:=h.mono (Nat.le_succ N)
 unfold aftX
 split
 ·exact cutX_ok h (by omega)
 split
 ·exact hm
 split
 ·refine⟨h.n,hd,hm.h,hm.h1,hm.hN,hm.t,hm.p,hm.tl,hm.ts,?_,?_,hm.g,hm.gl,hm.a,hm.al⟩
  ·intro p hp
   rcases List.mem_append.1 hp with hp|hp
   ·exact h.s p hp
   ·rw [List.mem_singleton.1 hp]
    exact pkt_sb hz hr
  ·show (x.s++[_]).length<=_
   rw [lla,List.length_singleton]
   have:=h.sl
   omega
 split
 ·refine⟨h.n,hd,hm.h,hm.h1,hm.hN,hm.t,hm.p,hm.tl,hm.ts,hm.s,hm.sl,?_,?_,?_,?_⟩
  ·intro p hp
   rcases List.mem_append.1 hp with hp|hp
   ·exact h.g p hp
   ·rw [List.mem_singleton.1 hp]
    exact hz
  ·show (x.g++[_]).length<=_
   rw [lla,List.length_singleton]
   have:=h.gl
   omega
  ·intro a ha
   rcases List.mem_append.1 ha with ha|ha
   ·exact h.a a ha
   ·rw [List.mem_singleton.1 ha]
    exact hr.a
  ·show (x.a++[_]).length=(x.g++[_]).length
   rw [lla,lla,h.al]
   rfl
 ·exact⟨h.n,hd,hm.h,hm.h1,hm.hN,hm.t,hm.p,hm.tl,hm.ts,hm.s,hm.sl,hm.g,hm.gl,hm.a,hm.al⟩
theorem hanX_pk (i:Bool)(n k:Int)(past:List Ent):PkB (hanX i n k past).x:=by
 unfold hanX
 split <;> exact zeroPk_b
theorem txN_pk {M N:Nat}{x y:SideX}(hx:SOk M x)(hy:SOk N y)(hN:N<=1000)(i:Bool)(n:Int)(s:StpX):PkB (txN i x y n s).x:=by
 have n1:=nm_len i
 have hk:=knX_rng x i
 have ht:=hy.t
 have hs:∀ (b:Bool) (a:Int),PkB (sndX i b (knX x i) s.t a y.t).x:=fun b a=>by
  have hb:=sndX_b i b (knX x i) s.t a y.t
  refine⟨hb.s,hb.k,hb.d,hb.f,hb.g,by show (0:Int)<=_;decide,?_,?_⟩
  ·show knX x i + 2 + s.t % 4<=_
   omega
  ·show (if b=true then y.t + 1 + s.t % 8 else 0)<=_
   split <;> omega
 unfold txN
 repeat' split
 ·exact zeroPk_b
 ·exact zeroPk_b
 ·exact zeroPk_b
 ·exact hanX_pk _ _ _ _
 ·exact hs _ _
 ·exact hs _ _
 ·unfold recX
  split
  ·exact zeroPk_b
  ·exact atPk_b hy.s _
 ·unfold ackX
  split
  ·exact zeroPk_b
  ·exact atPk_b hx.s _
 ·unfold timX
  split
  ·exact zeroPk_b
  ·exact atPk_b hx.s _
 ·exact⟨Nat.zero_le _,Nat.zero_le _,by show 1<=400000000;decide,by show 3<=400000000;decide,by show 3<=400000000;decide,by show (0:Int)<=_;decide,by show (0:Int)<=_;decide,by show (0:Int)<=_;decide⟩
 ·exact zeroPk_b
theorem txX_pk {M N:Nat}{x y:SideX}(hx:SOk M x)(hy:SOk N y)(hN:N<=1000)(i:Bool)(s:StpX):PkB (txX i x y s).x:=by
 have h:=txN_pk hx hy hN i (s.k % 16) s
 unfold txX spoX
 repeat' split
 all_goals first|exact h|exact⟨h.s,h.k,h.d,h.f,h.g,h.q,h.h,h.t⟩
theorem minD_ok:DOk minD:=mintR_dok (mintR_dok .nil)
theorem cut1_ok (i:Bool):SOk 0 (cutS i):=by
 refine⟨by cases i <;> rfl,minD_ok,rfl,Nat.le_refl _,Nat.le_refl _,(by show (0:Int)<=1/\(1:Int)<=1 + 3 * ((0:Nat):Int);decide),?_,rfl,?_,(fun _ h=>by cases h),Nat.le_refl _,(fun _ h=>by cases h),Nat.le_refl _,(fun _ h=>by cases h),rfl⟩
 ·intro q hq
  rw [List.mem_singleton.1 hq]
  exact minD_ok
 ·intro t ht
  rw [List.mem_singleton.1 ht]
  show (0:Int)<=1/\(1:Int)<=1 + 3 * ((0:Nat):Int)
  decide
theorem putX_ok {N:Nat}{x:SideX}(h:SOk N x)(k v:Bs):SOk N (putX x k v):=by
 unfold putX
 split
 ·exact⟨h.n,putR_dok h.d,h.h,h.h1,h.hN,h.t,h.p,h.tl,h.ts,h.s,h.sl,h.g,h.gl,h.a,h.al⟩
 ·exact h
theorem freS_ok (i:Bool):SOk 0 (freS i):=putX_ok (cut1_ok i) _ _
theorem opeS_ok (i:Bool):SOk 0 (opeS i):=putX_ok (putX_ok (freS_ok i) _ _) _ _
end Go.Proofs.YtlmcongmglfaeaaGreatDoor
