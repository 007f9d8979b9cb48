/- readers whose state bears its own bound, walked -/
import Derived.Test.YtmadjfemenlamaaGreatDoorA26
import Derived.Test.YtmadjfemenlamaaGreatDoorA34
import Derived.Test.YtmadjfemenlamaaGreatDoorA39
namespace Go.Proofs.YtmadjfemenlamaaGreatDoor
open Go Go.RowKit Tw Av
attribute [local irreducible] clB enB
instance fnLProved {d:List Ent}{h t:Int}{i k v:Bs}{x:TxX}{xs:List AV}[hx:Ents xs d]:Ans Tryz.prog GL 168 [.agg 3 [.agg 1 [.sl 2 xs none],int h,int t],str i,txA x,str k,str v] (DOk d∧TxB x) (int (prE d i x.t t k v x.f)):=⟨fun hp=>by
 obtain⟨hd,hb⟩:=hp
 have b1:DOk d∧x.f.m≤9223372036854775807:=⟨hd,by have:=hb.fm;omega⟩
 refine spec_enter Tryz.func168 rfl Tryz.ntmps168 rfl (fun _ hs=>?_)
 repeat' first|refine Zz ?_|intro _
 refine reE ?_
 rfl⟩
class KeyF (f:FuncId)(k:outParam Bs):Prop where
 out:∀ i,Ans Tryz.prog GL f [str i] True (str (kyO k i))
instance : KeyF 152 [75] := ⟨fun _ => inferInstance⟩
instance : KeyF 123 [72] := ⟨fun _ => inferInstance⟩
def joiQ (d:List Ent)(x:TxX)(i k pp:Bs)(th:EndX)(r:EndX × Int)(t:Int):Out18:=if prE d i x.t t (kyO k pp) (enxB th) x.f≠0 then failR d (prE d i x.t t (kyO k pp) (enxB th) x.f) else if r.2≠0 then failR d r.2 else putsR d (kyO k x.i) (enxB r.1)
theorem joi_t {d:List Ent}{x:TxX}{own:EndX}{i k:Bs}{t:Int}:joiR d x own i k true t=joiQ d x i k x.p ⟨2,own.q,own.o,x.i⟩ (ackE own x.i x.p ⟨2,own.q,own.o,x.i⟩) t:=rfl
theorem joi_f {d:List Ent}{x:TxX}{own:EndX}{i k:Bs}{t:Int}:joiR d x own i k false t=joiQ d x i k own.p ⟨3,own.q,own.o,x.i⟩ (cnfE own x.i ⟨3,own.q,own.o,x.i⟩) t:=rfl
end Go.Proofs.YtmadjfemenlamaaGreatDoor

namespace Go.Proofs.YtmadjfemenlamaaGreatDoor
open Go Go.RowKit Tw Av
attribute [local irreducible] clB enB
def Asks (f:FuncId)(cs:List Value)(m:List Av.Piece)(A:EndX→Bool):Prop:=∀ c:EndX,Av.Spec Tryz.prog GL f (.agg 4 [int c.s,str c.o,str c.q,str c.p]::cs.map .lit) m fun u m'=>u=boo (A c)∧m'=m
def chaT (d:List Ent)(i:Bs)(A:EndX→Bool):AV:=.tup [endA (enR d [72] i),str (if chaE d i A=0 then chaN d i else []),boo (decide (chaE d i A=0) && chaK d i),int (chaE d i A)]
set_option maxHeartbeats 2000000 in
theorem chan_spec {f:FuncId}[FnB Tryz.prog f]{cs:List Value}{m:List Av.Piece}{A:EndX→Bool}{d:List Ent}{h t:Int}{i:Bs}(ha:Asks f cs m A)(hc:∀ v ∈ cs,v.oneCell'=true)(hd:DOk d) :
  Av.Spec Tryz.prog GL 154 [.agg 3 [dA d,int h,int t],str i,fnv f cs] m fun u m'=>u=chaT d i A∧m'=m:=by
 refine spec_enter Tryz.func154 rfl Tryz.ntmps154 rfl (fun _ hs=>?_)
 repeat' first|refine Zz ?_|intro _
 rename_i g1 g2
 unfold chaT chaE
 cases h1:enB d [72] i
 ·rw [if_pos rfl]
  repeat' first|refine Zz ?_|intro _
  refine reK m ⟨rfl,rfl⟩ ?_
  exact sbl
 rw [if_neg (show ¬ true=false by decide)]
 repeat' first|refine Zz ?_|intro _
 by_cases h2:(enR d [72] i).s=3
 rotate_left
 ·rw [decide_eq_true h2]
  repeat' first|refine Zz ?_|intro _
  refine reK m ⟨?_,rfl⟩ ?_
  ·simp [h2,outOf]
  ·exact sbl
 rw [decide_eq_false (not_not_intro h2)]
 repeat' first|refine Zz ?_|intro _
 first|refine al_on ?_|skip
 refine al_callV (args:=[endA (enR d [72] i)]) (cs:=cs) m [Av.Piece.var g2 99 (endA (enR d [72] i)),.var g1 123 (.agg 3 [dA d,int h,int t])] (by rw [hs];exact ha _) (fun u m' hh=>?_) (List.perm_append_comm (l₁:=[Av.Piece.var g2 99 (endA (enR d [72] i)),.var g1 123 (.agg 3 [dA d,int h,int t])]) (l₂:=m)) (hcs:=hc)
 obtain⟨rfl,rfl⟩:=hh
 refine al_st (fun ok w hS=>hS.perm (m':=[Av.Piece.var g2 99 (endA (enR d [72] i)),.var g1 123 (.agg 3 [dA d,int h,int t])]++m') List.perm_append_comm) ?_
 cases h3:A (enR d [72] i)
 ·repeat' first|refine Zz ?_|intro _
  refine reK m' ⟨?_,rfl⟩ ?_
  ·simp [h2,outOf]
  ·exact sbl
 rw [if_neg (show ¬ ((enR d [72] i).s≠3∨true=false) by simp [h2])]
 repeat' first|refine Zz ?_|intro _
 refine reK m' ⟨?_,rfl⟩ ?_
 ·rfl
 ·exact sbl
theorem send_asks:Asks 155 [] [] (fun _=>true):=fun c=>by
 show Av.Spec _ _ _ [.agg 4 [int c.s,str c.o,str c.q,str c.p]] _ _
 refine spec_enter Tryz.func155 rfl Tryz.ntmps155 rfl (fun _ hs=>?_)
 repeat' first|refine Zz ?_|intro _
 refine reK [] ⟨rfl,rfl⟩ ?_
 exact sbl
theorem recv_asks {g:Nat}{x:Pkt}:Asks 165 [.pointer (some ⟨g,0,none⟩)] [.var g 62 (pktA x)] (fun c=>decide (c.p=x.s)):=fun c=>by
 show Av.Spec _ _ _ [.agg 4 [int c.s,str c.o,str c.q,str c.p],ptr g] _ _
 refine spec_enter Tryz.func165 rfl Tryz.ntmps165 rfl (fun _ hs=>?_)
 repeat' first|refine Zz ?_|intro _
 refine reK _ ⟨rfl,rfl⟩ ?_
 exact sbl
theorem nums_le {x:Pkt}(h:chkP x=true):x.q≤1099511627776∧x.h≤1099511627776∧x.t≤1099511627776∧1≤x.q:=by
 unfold chkP numsP at h
 rw [Bool.and_eq_true,decide_eq_true_iff] at h
 obtain⟨⟨h0,h1,_,h2,_,h3,_⟩,_⟩:=h
 exact⟨h1,h2,h3,h0⟩
set_option maxHeartbeats 2000000 in
instance fnLSend {d:List Ent}{h t:Int}{x:TxX}{xs:List AV}[hx:Ents xs d]:Ans Tryz.prog GL 96 [.agg 3 [.agg 1 [.sl 2 xs none],int h,int t],txA x] (DOk d∧TxB x) (.tup [dA (sndR d x.x).1,repA (sndR d x.x).2]):=⟨fun hp=>by
 have hp':=hp
 obtain⟨hd,hb⟩:=hp
 have h':=hx.out
 subst h'
 have b1:=hb.d
 have b2:=hb.s
 refine spec_enter Tryz.func96 rfl Tryz.ntmps96 rfl (fun _ hs=>?_)
 repeat' first|refine Zz ?_|intro _
 refine al_callK (args:=[.agg 3 [dA d,int h,int t],str x.x.s,fnv 155 []]) [] _ (by rw [hs];exact chan_spec send_asks (by simp) hd) (fun u m' hh=>?_) (List.Perm.refl _)
 obtain⟨rfl,rfl⟩:=hh
 unfold chaT sndR goes
 repeat' first|refine Zz ?_|intro _
 by_cases h1:chaE d x.x.s (fun _=>true)=0
 rotate_left
 ·rw [if_pos h1,decide_eq_true h1]
  repeat' first|refine Zz ?_|intro _
  refine reE ?_
  rfl
 rw [if_neg (not_not_intro h1),decide_eq_false (not_not_intro h1),decide_eq_true h1,if_pos h1,Bool.true_and]
 repeat' first|refine Zz ?_|intro _
 unfold chkN
 cases h2:chkP ⟨nxR d x.x.s,x.x.s,(enR d [72] x.x.s).p,x.x.d,x.x.a,x.x.f,x.x.g,x.x.h,x.x.t⟩
 ·rw [if_pos rfl,if_neg (show ¬ false=true by decide),decide_eq_true (show (1:Int)≠0 by decide)]
  repeat' first|refine Zz ?_|intro _
  refine reE ?_
  rfl
 rw [if_neg (show ¬ true=false by decide),if_pos rfl,decide_eq_false (show ¬ (0:Int)≠0 by decide)]
 repeat' first|refine Zz ?_|intro _
 cases h3:chaK d x.x.s
 ·rw [if_pos (.inl rfl)]
  repeat' first|refine Zz ?_|intro _
  refine reE ?_
  rfl
 repeat' first|refine Zz ?_|intro _
 cases h4:clB d (chaN d x.x.s)
 ·rw [if_pos (.inr rfl)]
  repeat' first|refine Zz ?_|intro _
  refine reE ?_
  rfl
 rw [if_neg (show ¬ (true=false∨true=false) by decide)]
 repeat' first|refine Zz ?_|intro _
 cases h5:lateP ⟨nxR d x.x.s,x.x.s,(enR d [72] x.x.s).p,x.x.d,x.x.a,x.x.f,x.x.g,x.x.h,x.x.t⟩ (latC (clR d (chaN d x.x.s)).l).h (latC (clR d (chaN d x.x.s)).l).t
 rotate_left
 ·rw [if_pos rfl]
  repeat' first|refine Zz ?_|intro _
  refine reE ?_
  rfl
 rw [if_neg (show ¬ false=true by decide)]
 have q1:DOk d∧x.x.s.length≤1000000000∧x.x.d.length≤1000000000:=⟨hd,by omega,by omega⟩
 have q2:nxR d x.x.s≤1099511627776∧x.x.h≤1099511627776∧x.x.t≤1099511627776∧1≤nxR d x.x.s:=nums_le h2
 obtain⟨q3,q4,q5,q8⟩:=q2
 have q6:DOk (sendR d ⟨nxR d x.x.s,x.x.s,(enR d [72] x.x.s).p,x.x.d,x.x.a,x.x.f,x.x.g,x.x.h,x.x.t⟩).1:=sendR_dok hd
 repeat' first|refine Zz ?_|intro _
 unfold thenR
 dsimp only
 by_cases h6:(sendR d ⟨nxR d x.x.s,x.x.s,(enR d [72] x.x.s).p,x.x.d,x.x.a,x.x.f,x.x.g,x.x.h,x.x.t⟩).2=0
 rotate_left
 ·rw [if_neg h6,decide_eq_false h6]
  repeat' first|refine Zz ?_|intro _
  rw [decide_eq_false h6]
  repeat' first|refine Zz ?_|intro _
  refine reE ?_
  rfl
 rw [if_pos h6,decide_eq_true h6]
 repeat' first|refine Zz ?_|intro _
 have q7:DOk (putR (sendR d ⟨nxR d x.x.s,x.x.s,(enR d [72] x.x.s).p,x.x.d,x.x.a,x.x.f,x.x.g,x.x.h,x.x.t⟩).1 (kyW [80] x.x.s (nxR d x.x.s)) (comP ⟨nxR d x.x.s,x.x.s,(enR d [72] x.x.s).p,x.x.d,x.x.a,x.x.f,x.x.g,x.x.h,x.x.t⟩)).1:=putR_dok q6
 by_cases h7:(putR (sendR d ⟨nxR d x.x.s,x.x.s,(enR d [72] x.x.s).p,x.x.d,x.x.a,x.x.f,x.x.g,x.x.h,x.x.t⟩).1 (kyW [80] x.x.s (nxR d x.x.s)) (comP ⟨nxR d x.x.s,x.x.s,(enR d [72] x.x.s).p,x.x.d,x.x.a,x.x.f,x.x.g,x.x.h,x.x.t⟩)).2=0
 rotate_left
 ·rw [if_neg h7,decide_eq_false h7]
  repeat' first|refine Zz ?_|intro _
  refine reE ?_
  rfl
 rw [if_pos h7,decide_eq_true h7]
 repeat' first|refine Zz ?_|intro _
 refine reE ?_
 rfl⟩
end Go.Proofs.YtmadjfemenlamaaGreatDoor

namespace Go.Proofs.YtmadjfemenlamaaGreatDoor
open Go Go.RowKit Tw Av
attribute [local irreducible] clB enB
def Eb (n:Int):Prop:=0≤n∧n < 256
theorem e0:Eb 0:=⟨by decide,by decide⟩
theorem e1:Eb 1:=⟨by decide,by decide⟩
theorem e11:Eb 11:=⟨by decide,by decide⟩
theorem e15:Eb 15:=⟨by decide,by decide⟩
theorem e16:Eb 16:=⟨by decide,by decide⟩
theorem e17:Eb 17:=⟨by decide,by decide⟩
theorem putR_b {d:List Ent}{k v:Bs}:Eb (putR d k v).2:=by
 unfold putR
 split
 ·first|exact e0|exact e1|exact e11|exact e15|exact e16|exact e17
 ·unfold putE
  split <;> (try split) <;> (try split) <;> first|exact e0|exact e1|exact e11|exact e15|exact e16|exact e17
theorem moreR_b {d:List Ent}{k:Bs}{n:Wd}:Eb (moreR k n d).2:=by
 unfold moreR
 split
 ·exact putR_b
 ·first|exact e0|exact e1|exact e11|exact e15|exact e16|exact e17
theorem lessR_b {d:List Ent}{k:Bs}{n:Wd}:Eb (lessR k n d).2:=by
 unfold lessR
 split
 ·first|exact e0|exact e1|exact e11|exact e15|exact e16|exact e17
 ·split
  ·first|exact e0|exact e1|exact e11|exact e15|exact e16|exact e17
  ·exact putR_b
theorem thenR_b {a b:List Ent→List Ent × Int}{d:List Ent}(ha:∀ d,Eb (a d).2)(hb:∀ d,Eb (b d).2):Eb (thenR a b d).2:=by
 unfold thenR
 split
 ·exact hb _
 ·exact ha _
theorem mintR_b {d:List Ent}{a c:Bs}{n:Wd}:Eb (mintR d a c n).2:=by
 unfold mintR
 split
 ·first|exact e0|exact e1|exact e11|exact e15|exact e16|exact e17
 ·split
  ·first|exact e0|exact e1|exact e11|exact e15|exact e16|exact e17
  ·exact thenR_b (fun _=>moreR_b) (fun _=>moreR_b)
theorem moveR_b {d:List Ent}{a b c:Bs}{n:Wd}:Eb (moveR d a b c n).2:=by
 unfold moveR
 split
 ·first|exact e0|exact e1|exact e11|exact e15|exact e16|exact e17
 ·split
  ·first|exact e0|exact e1|exact e11|exact e15|exact e16|exact e17
  ·exact thenR_b (fun _=>lessR_b) (fun _=>moreR_b)
theorem recvR_e {d:List Ent}{x:Pkt}:0≤(recvR d x).2∧(recvR d x).2 < 256:=by
 show Eb _
 unfold recvR
 split
 ·exact⟨by decide,by decide⟩
 ·split
  ·exact moveR_b
  ·exact mintR_b
set_option maxHeartbeats 4000000 in
instance fnLRecv {d:List Ent}{h t:Int}{x:TxX}{xs:List AV}[hx:Ents xs d]:Ans Tryz.prog GL 97 [.agg 3 [.agg 1 [.sl 2 xs none],int h,int t],txA x] (DOk d∧TxB x) (.tup [dA (rcvR d x h t).1,repA (rcvR d x h t).2]):=⟨fun hp=>by
 have hp':=hp
 obtain⟨hd,hb⟩:=hp
 have h':=hx.out
 subst h'
 have b1:=hb.d
 have b2:=hb.s
 have b3:=hb.k
 refine spec_enter Tryz.func97 rfl Tryz.ntmps97 rfl (fun _ hs=>?_)
 repeat' first|refine Zz ?_|intro _
 unfold rcvR chkN
 cases h1:chkP x.x
 ·rw [if_pos rfl,if_neg (show ¬ false=true by decide),decide_eq_true (show (1:Int)≠0 by decide)]
  repeat' first|refine Zz ?_|intro _
  refine reE ?_
  rfl
 rw [if_neg (show ¬ true=false by decide),if_pos rfl,decide_eq_false (show ¬ (0:Int)≠0 by decide)]
 obtain⟨q1,q2,q3,q4⟩:=nums_le h1
 repeat' first|refine Zz ?_|intro _
 rename_i g2 g3 g4 g5 g6
 refine al_makeFunc (vs:=[.pointer (some ⟨g6,0,none⟩)]) ?_
 refine al_callK (args:=[.agg 3 [dA d,int h,int t],str x.x.k,fnv 165 [.pointer (some ⟨g6,0,none⟩)]]) [.var g6 62 (pktA x.x)] _ (by rw [hs];exact chan_spec recv_asks (by simp [Value.oneCell']) hd) (fun u m' hh=>?_) (List.Perm.refl _)
 obtain⟨rfl,rfl⟩:=hh
 unfold chaT
 repeat' first|refine Zz ?_|intro _
 by_cases h2:chaE d x.x.k (fun c=>decide (c.p=x.x.s))=0
 rotate_left
 ·rw [if_pos h2,decide_eq_true h2]
  repeat' first|refine Zz ?_|intro _
  refine reE ?_
  rfl
 rw [if_neg (not_not_intro h2),decide_eq_false (not_not_intro h2),decide_eq_true h2,if_pos h2,Bool.true_and]
 repeat' first|refine Zz ?_|intro _
 cases h3:lateP x.x h t
 rotate_left
 ·rw [if_pos rfl]
  repeat' first|refine Zz ?_|intro _
  refine reE ?_
  rfl
 rw [if_neg (show ¬ false=true by decide)]
 repeat' first|refine Zz ?_|intro _
 cases h4:(gO d (kyW [71] x.x.k x.x.q)).isSome
 rotate_left
 ·rw [if_pos rfl]
  repeat' first|refine Zz ?_|intro _
  refine reE ?_
  rfl
 rw [if_neg (show ¬ false=true by decide)]
 repeat' first|refine Zz ?_|intro _
 cases h5:chaK d x.x.k
 ·rw [if_pos rfl]
  repeat' first|refine Zz ?_|intro _
  refine reE ?_
  rfl
 rw [if_neg (show ¬ true=false by decide)]
 repeat' first|refine Zz ?_|intro _
 by_cases h6:prE d (chaN d x.x.k) x.t t (kyW [80] x.x.s x.x.q) (comP x.x) x.f=0
 rotate_left
 ·rw [if_pos h6,decide_eq_true h6]
  repeat' first|refine Zz ?_|intro _
  refine reE ?_
  rfl
 rw [if_neg (not_not_intro h6),decide_eq_false (not_not_intro h6)]
 have q5:DOk d∧x.x.s.length≤400000000∧x.x.d.length≤400000000∧x.x.k.length≤400000000:=⟨hd,b2,b1,b3⟩
 have q6:DOk (recvR d x.x).1:=recvR_dok hd
 have q7:=recvR_e (d:=d) (x:=x.x)
 unfold ackR
 repeat' first|refine Zz ?_|intro _
 by_cases h7:(recvR d x.x).2=0
 ·rw [if_pos h7,if_pos h7,decide_eq_false (not_not_intro h7)]
  repeat' first|refine Zz ?_|intro _
  refine reE ?_
  rfl
 ·rw [if_neg h7,if_neg h7,decide_eq_true h7]
  have q9:(failB (recvR d x.x).2).length≤1000000000:=by
   unfold failB
   exact (by decide:2≤1000000000)
  repeat' first|refine Zz ?_|intro _
  refine reE ?_
  rfl⟩
end Go.Proofs.YtmadjfemenlamaaGreatDoor

namespace Go.Proofs.YtmadjfemenlamaaGreatDoor
open Go Go.RowKit Tw Av
attribute [local irreducible] clB enB
end Go.Proofs.YtmadjfemenlamaaGreatDoor

namespace Go.Proofs.YtmadjfemenlamaaGreatDoor
open Go Go.RowKit Tw Av
attribute [local irreducible] clB enB lateP
end Go.Proofs.YtmadjfemenlamaaGreatDoor

namespace Go.Proofs.YtmadjfemenlamaaGreatDoor
open Go Go.RowKit Tw Av
def callV (k:Int):AV:=
 if k=1 then fnv 88 [] else if k=2 then fnv 89 [] else if k=3 then fnv 90 [] else if k=4 then fnv 91 [] else if k=5 then fnv 92 [] else if k=6 then fnv 92 [] else if k=7 then fnv 93 [] else if k=8 then fnv 93 [] else if k=9 then fnv 94 [] else if k=10 then fnv 94 [] else if k=11 then fnv 95 [] else if k=12 then fnv 95 [] else if k=13 then fnv 96 [] else if k=14 then fnv 97 [] else if k=15 then fnv 98 [] else if k=16 then fnv 99 [] else .lit .nilFunc
theorem call1:callV 1=fnv 88 []:=rfl
theorem do1 {d:List Ent}{x:TxX}{h t:Int}(e:x.k=1):doR d x h t=fundR d x.x:=by
 unfold doR
 rw [e]
 rfl
theorem call2:callV 2=fnv 89 []:=rfl
theorem do2 {d:List Ent}{x:TxX}{h t:Int}(e:x.k=2):doR d x h t=movR d x.x:=by
 unfold doR
 rw [e]
 rfl
theorem call3:callV 3=fnv 90 []:=rfl
theorem do3 {d:List Ent}{x:TxX}{h t:Int}(e:x.k=3):doR d x h t=creR d x:=by
 unfold doR
 rw [e]
 rfl
theorem call4:callV 4=fnv 91 []:=rfl
theorem do4 {d:List Ent}{x:TxX}{h t:Int}(e:x.k=4):doR d x h t=updR d x t:=by
 unfold doR
 rw [e]
 rfl
theorem call5:callV 5=fnv 92 []:=rfl
theorem do5 {d:List Ent}{x:TxX}{h t:Int}(e:x.k=5):doR d x h t=conR d x t:=by
 unfold doR
 rw [e]
 rfl
theorem call6:callV 6=fnv 92 []:=rfl
theorem do6 {d:List Ent}{x:TxX}{h t:Int}(e:x.k=6):doR d x h t=conR d x t:=by
 unfold doR
 rw [e]
 rfl
theorem call7:callV 7=fnv 93 []:=rfl
theorem do7 {d:List Ent}{x:TxX}{h t:Int}(e:x.k=7):doR d x h t=codR d x t:=by
 unfold doR
 rw [e]
 rfl
theorem call8:callV 8=fnv 93 []:=rfl
theorem do8 {d:List Ent}{x:TxX}{h t:Int}(e:x.k=8):doR d x h t=codR d x t:=by
 unfold doR
 rw [e]
 rfl
theorem call9:callV 9=fnv 94 []:=rfl
theorem do9 {d:List Ent}{x:TxX}{h t:Int}(e:x.k=9):doR d x h t=opnR d x t:=by
 unfold doR
 rw [e]
 rfl
theorem call10:callV 10=fnv 94 []:=rfl
theorem do10 {d:List Ent}{x:TxX}{h t:Int}(e:x.k=10):doR d x h t=opnR d x t:=by
 unfold doR
 rw [e]
 rfl
theorem call11:callV 11=fnv 95 []:=rfl
theorem do11 {d:List Ent}{x:TxX}{h t:Int}(e:x.k=11):doR d x h t=opdR d x t:=by
 unfold doR
 rw [e]
 rfl
theorem call12:callV 12=fnv 95 []:=rfl
theorem do12 {d:List Ent}{x:TxX}{h t:Int}(e:x.k=12):doR d x h t=opdR d x t:=by
 unfold doR
 rw [e]
 rfl
theorem call13:callV 13=fnv 96 []:=rfl
theorem do13 {d:List Ent}{x:TxX}{h t:Int}(e:x.k=13):doR d x h t=sndR d x.x:=by
 unfold doR
 rw [e]
 rfl
theorem call14:callV 14=fnv 97 []:=rfl
theorem do14 {d:List Ent}{x:TxX}{h t:Int}(e:x.k=14):doR d x h t=rcvR d x h t:=by
 unfold doR
 rw [e]
 rfl
theorem call15:callV 15=fnv 98 []:=rfl
theorem do15 {d:List Ent}{x:TxX}{h t:Int}(e:x.k=15):doR d x h t=acksR d x t:=by
 unfold doR
 rw [e]
 rfl
theorem call16:callV 16=fnv 99 []:=rfl
theorem do16 {d:List Ent}{x:TxX}{h t:Int}(e:x.k=16):doR d x h t=timR d x t:=by
 unfold doR
 rw [e]
 rfl
theorem callN {k:Int}(h:¬ (1≤k∧k≤16)):callV k=.lit .nilFunc:=by
 unfold callV
 repeat rw [if_neg (by omega)]
theorem doN {d:List Ent}{x:TxX}{h t:Int}(e:¬ (1≤x.k∧x.k≤16)):doR d x h t=failR d 1:=by
 unfold doR
 repeat rw [if_neg (by omega)]
attribute [local irreducible] clB enB lateP fundR movR creR updR conR codR opnR opdR sndR rcvR acksR timR callV doR
section
variable {P:Program} {N:Nat} {ops:Array Oper} {Q:Exit→Act→World→Prop} {rest:List Oper} {s:Av.Base} {e:Av.Env} {m:List Av.Piece} {d:Nat} {ty:TypeId} {pos:String} {af:Array Edge}
def isFn:Option TypeDesc→Bool
 | some (.func _ _ _)=>true
 | _=>false
theorem isFn_out {o:Option TypeDesc}(h:isFn o=true):∃ A B C,o=some (.func A B C):=by
 unfold isFn at h
 split at h
 ·exact⟨_,_,_,rfl⟩
 ·cases h
theorem al_fnNF {op:BinOp}{T yT:TypeId}(hT:isFn (P.underlying T)=true){x y:Operand}{f:FuncId}{cs:List Value}{c:Bool}(h:AL P N ops Q s rest ((d,boo c)::e) m)(hx:Av.ev e x=some (fnv f cs):=by exact rfl)(hy:Av.ev e y=some (.lit .nilFunc):=by exact rfl)(hc:eqs op false=some c:=by exact rfl)(hd:Nat.blt d N=true:=by exact rfl):AL P N ops Q s (⟨some d,.binOp op T x y yT,ty,pos,af,none⟩::rest) e m:=
 al_lit rfl (fun ok w A hA=>by
  obtain⟨_,_,_,ht⟩:=isFn_out hT
  exact run_eqs (hA.lit hx) (hA.lit hy) (by simp) (by simp) (by simp) (by simp) (by unfold eqGuard;cases op <;> rfl) (by
  have h:∀ d:Nat,(Op.equalIn (d + 1) T (.func (.func f) #[] cs.toArray) .nilFunc).run P w=.ok false w:=fun d=>by simp [Op.equalIn,run_underlying ht]
  exact h 9999) hc) hd h
end
theorem kinds {k:Int}(h:1≤k∧k≤16):k=1∨k=2∨k=3∨k=4∨k=5∨k=6∨k=7∨k=8∨k=9∨k=10∨k=11∨k=12∨k=13∨k=14∨k=15∨k=16:=by omega
set_option maxHeartbeats 2000000 in
instance fnCoCall {k:Int}:Ans Tryz.prog GL 50 [int k] True (callV k):=⟨fun _=>by
 refine spec_enter Tryz.func50 rfl Tryz.ntmps50 rfl (fun _ hs=>?_)
 by_cases h:1≤k∧k≤16
 ·rcases kinds h with rfl|rfl|rfl|rfl|rfl|rfl|rfl|rfl|rfl|rfl|rfl|rfl|rfl|rfl|rfl|rfl
  all_goals
   repeat' first|refine Zz ?_|intro _
   refine reE ?_
   first|exact call1.symm|exact call2.symm|exact call3.symm|exact call4.symm|exact call5.symm|exact call6.symm|exact call7.symm|exact call8.symm|exact call9.symm|exact call10.symm|exact call11.symm|exact call12.symm|exact call13.symm|exact call14.symm|exact call15.symm|exact call16.symm
 ·repeat' first|refine Zz ?_|intro _
  refine reE ?_
  exact (callN h).symm⟩
end Go.Proofs.YtmadjfemenlamaaGreatDoor

namespace Go.Proofs.YtmadjfemenlamaaGreatDoor
open Go Go.RowKit Tw Av
theorem tellR_dok {d:List Ent}{r:List Ent × Int}{p:Rep}(h:DOk d)(hr:DOk r.1):DOk (tellR d r p).1:=by
 unfold tellR failR
 split
 ·exact hr
 ·exact h
theorem putsR_dok {d:List Ent}{k v:Bs}(h:DOk d):DOk (putsR d k v).1:=tellR_dok h (putR_dok h)
theorem begR_dok {d:List Ent}{x:TxX}{i k:Bs}{b:Bool}{t:Int}(h:DOk d):DOk (begR d x i k b t).1:=by
 unfold begR
 repeat' (first|exact h|exact putsR_dok h|split)
theorem joiR_dok {d:List Ent}{x:TxX}{own:EndX}{i k:Bs}{b:Bool}{t:Int}(h:DOk d):DOk (joiR d x own i k b t).1:=by
 cases b
 ·rw [joi_f]
  unfold joiQ
  split
  ·exact h
  ·split
   ·exact h
   ·exact putsR_dok h
 ·rw [joi_t]
  unfold joiQ
  split
  ·exact h
  ·split
   ·exact h
   ·exact putsR_dok h
theorem endR_dok {d:List Ent}{x:Pkt}{b:Bool}{e:Int}(h:DOk d):DOk (endR d x b e).1:=by
 unfold endR
 split
 ·exact h
 split
 ·exact h
 split
 ·exact h
 split
 ·exact h
 refine DOk.drp ?_ _
 split
 ·exact backR_dok h
 ·exact h
section
variable {d:List Ent} {x:TxX} {h t:Int} (hd:DOk d)
include hd
theorem fundR_dok:DOk (fundR d x.x).1:=by
 unfold fundR
 split
 ·exact hd
 ·exact tellR_dok hd (mintR_dok hd)
theorem movR_dok:DOk (movR d x.x).1:=by
 unfold movR
 split
 ·exact hd
 ·exact tellR_dok hd (moveR_dok hd)
theorem creR_dok:DOk (creR d x).1:=by
 unfold creR
 split
 ·exact hd
 ·split
  ·exact hd
  ·split
   ·exact hd
   ·exact putsR_dok hd
theorem updR_dok:DOk (updR d x t).1:=by
 unfold updR
 split
 ·exact hd
 ·split
  ·exact hd
  ·exact putsR_dok hd
theorem conR_dok:DOk (conR d x t).1:=by
 unfold conR
 split
 ·exact hd
 ·split
  ·exact hd
  ·split
   ·exact hd
   ·exact begR_dok hd
theorem codR_dok:DOk (codR d x t).1:=by
 unfold codR
 split
 ·exact hd
 ·exact joiR_dok hd
theorem opnR_dok:DOk (opnR d x t).1:=by
 unfold opnR
 split
 ·exact hd
 ·split
  ·exact hd
  ·split
   ·exact hd
   ·split
    ·exact hd
    ·exact begR_dok hd
theorem opdR_dok:DOk (opdR d x t).1:=by
 unfold opdR
 split
 ·exact hd
 ·exact joiR_dok hd
theorem sndR_dok:DOk (sndR d x.x).1:=by
 unfold sndR
 split
 ·exact hd
 ·split
  ·exact hd
  ·split
   ·exact hd
   ·split
    ·exact hd
    ·exact tellR_dok hd (thenR_dok hd (fun d h=>sendR_dok h) (fun d h=>thenR_dok h (fun d h=>putR_dok h) (fun d h=>putR_dok h)))
theorem rcvR_dok:DOk (rcvR d x h t).1:=by
 have h1:DOk (if (recvR d x.x).2=0 then (recvR d x.x).1 else d):=by
  split
  ·exact recvR_dok hd
  ·exact hd
 unfold rcvR
 generalize (if (recvR d x.x).2=0 then (recvR d x.x).1 else d)=D at *
 split
 ·exact hd
 split
 ·exact hd
 split
 ·exact hd
 split
 ·exact hd
 split
 ·exact hd
 split
 ·exact hd
 exact tellR_dok hd (putR_dok h1)
theorem acksR_dok:DOk (acksR d x t).1:=by
 unfold acksR
 split
 ·exact hd
 ·exact endR_dok hd
theorem timR_dok:DOk (timR d x t).1:=by
 unfold timR
 split
 ·exact hd
 ·exact endR_dok hd
theorem doR_dok:DOk (doR d x h t).1:=by
 by_cases hk:1≤x.k∧x.k≤16
 rotate_left
 ·rw [doN hk]
  exact hd
 rcases kinds hk with e|e|e|e|e|e|e|e|e|e|e|e|e|e|e|e
 ·rw [do1 e]
  exact fundR_dok hd
 ·rw [do2 e]
  exact movR_dok hd
 ·rw [do3 e]
  exact creR_dok hd
 ·rw [do4 e]
  exact updR_dok hd
 ·rw [do5 e]
  exact conR_dok hd
 ·rw [do6 e]
  exact conR_dok hd
 ·rw [do7 e]
  exact codR_dok hd
 ·rw [do8 e]
  exact codR_dok hd
 ·rw [do9 e]
  exact opnR_dok hd
 ·rw [do10 e]
  exact opnR_dok hd
 ·rw [do11 e]
  exact opdR_dok hd
 ·rw [do12 e]
  exact opdR_dok hd
 ·rw [do13 e]
  exact sndR_dok hd
 ·rw [do14 e]
  exact rcvR_dok hd
 ·rw [do15 e]
  exact acksR_dok hd
 ·rw [do16 e]
  exact timR_dok hd
end
end Go.Proofs.YtmadjfemenlamaaGreatDoor

namespace Go.Proofs.YtmadjfemenlamaaGreatDoor
open Go Go.RowKit Tw Av
structure BlkX where
 h:Int
 t:Int
 x:List Bs
structure EvX where
 h:Int
 k:Int
 x:Pkt
 a:Bs
deriving DecidableEq
abbrev evA (v:EvX):AV:=.agg 15 [int v.h,int v.k,pktA v.x,str v.a]
def evR (d:List Ent)(h:Int)(x:TxX)(r:Rep):EvX:=
 ⟨h,x.k,if x.k=13 then { x.x with q:=r.q,k:=(enR d [72] x.x.s).p } else x.x,if x.k=14 then r.a else if x.k=15 then x.a else []⟩
abbrev Run3:=List Ent × List Rep × List EvX
def runD (h t:Int)(q:Run3)(x:TxX):Run3:=
 ((doR q.1 x h t).1,q.2.1++[(doR q.1 x h t).2],if (doR q.1 x h t).2.e=0∧13≤x.k then q.2.2++[evR (doR q.1 x h t).1 h x (doR q.1 x h t).2] else q.2.2)
def runS (h t:Int)(q:Run3)(s:Bs):Run3:=if rtxE (xs0 s)=0 then runD h t q (rtxV (xs0 s)) else (q.1,q.2.1++[repE 10],q.2.2)
def runL (h t:Int)(q:Run3)(l:List Bs):Run3:=l.foldl (runS h t) q
def runR (d:List Ent)(b:BlkX):Run3:=runL b.h b.t (d,[],[]) b.x
theorem runL_cons (h t:Int)(q:Run3)(s:Bs)(l:List Bs):runL h t q (s::l)=runL h t (runS h t q s) l:=by
 unfold runL
 exact List.foldl_cons ..
theorem runL_app (h t:Int)(q:Run3)(l r:List Bs):runL h t q (l++r)=runL h t (runL h t q l) r:=List.foldl_append
theorem runS_dok {h t:Int}{q:Run3}{s:Bs}(hd:DOk q.1):DOk (runS h t q s).1:=by
 unfold runS runD
 split
 ·exact doR_dok hd
 ·exact hd
theorem runL_dok {h t:Int}:∀ {l:List Bs} {q:Run3},DOk q.1→DOk (runL h t q l).1
 | [],_,hd=>hd
 | s::l,q,hd=>by rw [runL_cons];exact runL_dok (runS_dok hd)
theorem runS_len {h t:Int}{q:Run3}{s:Bs}:(runS h t q s).2.1.length=q.2.1.length + 1∧(runS h t q s).2.2.length≤q.2.2.length + 1:=by
 unfold runS runD
 split
 ·refine⟨by simp,?_⟩
  dsimp only
  split
  ·simp
  ·omega
 ·simp
theorem runL_len {h t:Int}:∀ {l:List Bs} {q:Run3},(runL h t q l).2.1.length=q.2.1.length + l.length∧(runL h t q l).2.2.length≤q.2.2.length + l.length
 | [],_=>⟨rfl,Nat.le_refl _⟩
 | s::l,q=>by
  have h1:=runS_len (h:=h) (t:=t) (q:=q) (s:=s)
  have h2:=runL_len (h:=h) (t:=t) (l:=l) (q:=runS h t q s)
  rw [runL_cons,List.length_cons]
  omega
def Dead (d:List Ent)(h t:Int)(s:Bs):Prop:=rtxE (xs0 s)=0→(doR d (rtxV (xs0 s)) h t).1=d∧(doR d (rtxV (xs0 s)) h t).2.e≠0
theorem runS_dead {h t:Int}{q:Run3}{s:Bs}(hs:Dead q.1 h t s)(hr:∀ r ∈ q.2.1,r.e≠0):(runS h t q s).1=q.1∧(∀ r ∈ (runS h t q s).2.1,r.e≠0)∧(runS h t q s).2.2=q.2.2:=by
 unfold runS
 split
 ·rename_i h0
  obtain⟨h1,h2⟩:=hs h0
  unfold runD
  refine⟨h1,fun r hm=>?_,by dsimp only;rw [if_neg (fun h=>h2 h.1)]⟩
  rcases List.mem_append.1 hm with hm|hm
  ·exact hr r hm
  ·obtain rfl:=List.mem_singleton.1 hm
   exact h2
 ·refine⟨rfl,fun r hm=>?_,rfl⟩
  rcases List.mem_append.1 hm with hm|hm
  ·exact hr r hm
  ·obtain rfl:=List.mem_singleton.1 hm
   decide
theorem runL_dead {h t:Int}:∀ {l:List Bs} {q:Run3},(∀ s ∈ l,Dead q.1 h t s)→(∀ r ∈ q.2.1,r.e≠0)→(runL h t q l).1=q.1∧(∀ r ∈ (runL h t q l).2.1,r.e≠0)∧(runL h t q l).2.2=q.2.2
 | [],_,_,hr=>⟨rfl,hr,rfl⟩
 | s::l,q,hs,hr=>by
  obtain⟨h1,h2,h3⟩:=runS_dead (hs s (List.mem_cons_self)) hr
  rw [runL_cons]
  have:=runL_dead (l:=l) (q:=runS h t q s) (fun x hx=>by rw [h1];exact hs x (List.mem_cons_of_mem _ hx)) h2
  rw [h1,h3] at this
  exact this
def specK (k a:Int):TxX:=
 ⟨if k=2 then 2 else if k=3 then 3 else if k=5 then 13 else if k=6 then 4 else if k=7 then 14 else 1,
  [107],[],[],[],[107,101,121],9,⟨[98],1 + a,0,zeroH⟩,zeroH,
  ⟨if k=7 then 1 else 0,if k=5∨k=7 then [99] else [],if k=7 then [99] else [],[120],wOf a.toNat,[97,110,110],if k=0∨k=1 then [97,110,110] else [98,111,98],if k=5∨k=7 then 100 else 0,0⟩,
  [],0,zeroP,zeroG⟩
def specB (kd am:Int)(raw:Bs):Bs:=if kd % 8=4 then raw.take 30 else txB (specK (kd % 8) (am % 8))
theorem zeroG_gg:GG zeroG:=⟨by decide,⟨by decide,by simp [zeroG],zeroP_pg⟩,⟨by decide,by simp [zeroG],zeroP_pg⟩⟩
theorem specK_g {k a:Int}(h0:0≤a)(h1:a < 8):TxG (specK k a):=by
 refine⟨?_,by show 1≤4000;decide,by show 0≤4000;decide,by show 0≤4000;decide,by show 0≤4000;decide,by show 3≤4000;decide,by show (0:Int)≤9∧(9:Int)≤1099511627776;decide,by show 1≤4000;decide,by show 0≤1 + a∧1 + a≤1099511627776;omega,by show (0:Int)≤0∧(0:Int)≤1099511627776;decide,?_,?_,by show (0:Int)≤0∧(0:Int)≤1099511627776;decide,by show (0:Int)≤0∧(0:Int)≤1099511627776;decide,?_,?_,by show 1≤4000;decide,by show 3≤4000;decide,?_,by show 0≤4000;decide,zeroP_pg,zeroG_gg,Nat.le_of_ble_eq_true (by kernel_rfl)⟩
 all_goals
  unfold specK
  dsimp only
  repeat' split
  all_goals decide
theorem txB_len (x:TxX):(txB x).length≤1000000000:=by
 unfold txB
 refine Nat.le_trans LenLe.out ?_
 decide
theorem spec_back {k a:Int}(h0:0≤a)(h1:a < 8):rtxV (xs0 (txB (specK k a)))=specK k a∧rtxE (xs0 (txB (specK k a)))=0:=rtx_txB (specK_g h0 h1) (txB_len _)
def lawE (o:Bs):Bs:=tlvI 115 3++tlvT 111 o++tlvT 113 [113]++tlvT 112 [112,101,101,114]
def stD1:List Ent:=(creR [] (specK 3 0)).1
def stD2:List Ent:=(putR stD1 ([75]++tlvT 105 [110]) (lawE [107])).1
def stD3:List Ent:=(putR stD2 ([72]++tlvT 105 [99]) (lawE [110])).1
def startL (o:Bool):List Ent:=if o=true then stD3 else []
end Go.Proofs.YtmadjfemenlamaaGreatDoor

namespace Go.Proofs.YtmadjfemenlamaaGreatDoor
open Go Go.RowKit Tw Av
instance rdTextS {g:Nat}{σ:RS}{c most:Int}:AnsM Tryz.prog GL 41 g [.lit (.int .u8 c),int most] 159 (rdS σ) True (str (gT c most σ)) (rdS (sT c most σ)):=⟨fun _=>(rdText (g:=g) (s:=σ.1.1) (b:=σ.1.2) (c:=c) (most:=most)).spec (by have:=σ.2;omega)⟩
instance rdIntS {g:Nat}{σ:RS}{c most:Int}:AnsM Tryz.prog GL 43 g [.lit (.int .u8 c),int most] 159 (rdS σ) (0≤most∧most≤9223372036854775807) (int (gI c most σ)) (rdS (sI c most σ)):=⟨fun h=>(rdInt (g:=g) (s:=σ.1.1) (b:=σ.1.2) (c:=c) (most:=most)).spec ⟨by have:=σ.2;omega,h⟩⟩
instance rdEndS {g:Nat}{σ:RS}:AnsM Tryz.prog GL 49 g [] 159 (rdS σ) True (int (gZ σ)) (rdS σ):=⟨fun h=>(rdEnd (g:=g) (s:=σ.1.1) (b:=σ.1.2)).spec h⟩
instance rrTextS {g:Nat}{σ:RS}{c most:Int}:AnsM Tryz.prog GL 58 g [.lit (.int .u8 c),int most] 132 (rdS σ) True (str (gT c most σ)) (rdS (sT c most σ)):=⟨fun _=>(rrText (g:=g) (s:=σ.1.1) (b:=σ.1.2) (c:=c) (most:=most)).spec (by have:=σ.2;omega)⟩
instance rrIntS {g:Nat}{σ:RS}{c most:Int}:AnsM Tryz.prog GL 57 g [.lit (.int .u8 c),int most] 132 (rdS σ) (0≤most∧most≤9223372036854775807) (int (gI c most σ)) (rdS (sI c most σ)):=⟨fun h=>(rrInt (g:=g) (s:=σ.1.1) (b:=σ.1.2) (c:=c) (most:=most)).spec ⟨by have:=σ.2;omega,h⟩⟩
instance rrEndS {g:Nat}{σ:RS}:AnsM Tryz.prog GL 63 g [] 132 (rdS σ) True (int (gZ σ)) (rdS σ):=⟨fun h=>(rrEnd (g:=g) (s:=σ.1.1) (b:=σ.1.2)).spec h⟩
end Go.Proofs.YtmadjfemenlamaaGreatDoor
