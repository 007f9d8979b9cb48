/- the core, walked: a transaction -/
import Derived.Test.YtppngnhckahbnaaGreatDoorA45
namespace Go.Proofs.YtppngnhckahbnaaGreatDoor
open Go Go.RowKit Tw Av
attribute [local irreducible] clB enB
def Asks (f:FuncId)(cs:List Value)(m:List Av.Piece)(A:EndX→Bool):Prop:=∀ c:EndX,Av.Spec Tryz.prog GL f (.agg 4 [int c.s,str c.o,str c.q,str c.p]::cs.map .lit) m fun u m'=>u=boo (A c)∧m'=m
def chaT (d:List Ent)(i:Bs)(A:EndX→Bool):AV:=.tup [endA (enR d [72] i),str (if chaE d i A=0 then chaN d i else []),boo (decide (chaE d i A=0) && chaK d i),int (chaE d i A)]
set_option maxHeartbeats 2000000 in
theorem chan_spec {f:FuncId}[FnB Tryz.prog f]{cs:List Value}{m:List Av.Piece}{A:EndX→Bool}{d:List Ent}{h t:Int}{i:Bs}(ha:Asks f cs m A)(hc:∀ v ∈ cs,v.oneCell'=true)(hd:DOk d) :
  Av.Spec Tryz.prog GL 218 [.agg 3 [dA d,int h,int t],str i,fnv f cs] m fun u m'=>u=chaT d i A∧m'=m:=by
 refine spec_enter Tryz.func218 rfl Tryz.ntmps218 rfl (fun _ hs=>?_)
 repeat' first|refine Zz ?_|intro _
 rename_i g1 g2
 unfold chaT chaE
 cases h1:enB d [72] i
 ·rw [if_pos rfl]
  repeat' first|refine Zz ?_|intro _
  refine reK m ⟨rfl,rfl⟩ ?_
  exact sbl
 rw [if_neg (show ¬ true=false by decide)]
 repeat' first|refine Zz ?_|intro _
 by_cases h2:(enR d [72] i).s=3
 rotate_left
 ·rw [decide_eq_true h2]
  repeat' first|refine Zz ?_|intro _
  refine reK m ⟨?_,rfl⟩ ?_
  ·simp [h2,outOf]
  ·exact sbl
 rw [decide_eq_false (not_not_intro h2)]
 repeat' first|refine Zz ?_|intro _
 first|refine al_on ?_|skip
 refine al_callV (args:=[endA (enR d [72] i)]) (cs:=cs) m [Av.Piece.var g2 84 (endA (enR d [72] i)),.var g1 136 (.agg 3 [dA d,int h,int t])] (by rw [hs];exact ha _) (fun u m' hh=>?_) (List.perm_append_comm (l₁:=[Av.Piece.var g2 84 (endA (enR d [72] i)),.var g1 136 (.agg 3 [dA d,int h,int t])]) (l₂:=m)) (hcs:=hc)
 obtain⟨rfl,rfl⟩:=hh
 refine al_st (fun ok w hS=>hS.perm (m':=[Av.Piece.var g2 84 (endA (enR d [72] i)),.var g1 136 (.agg 3 [dA d,int h,int t])]++m') List.perm_append_comm) ?_
 cases h3:A (enR d [72] i)
 ·repeat' first|refine Zz ?_|intro _
  refine reK m' ⟨?_,rfl⟩ ?_
  ·simp [h2,outOf]
  ·exact sbl
 rw [if_neg (show ¬ ((enR d [72] i).s≠3∨true=false) by simp [h2])]
 repeat' first|refine Zz ?_|intro _
 refine reK m' ⟨?_,rfl⟩ ?_
 ·rfl
 ·exact sbl
theorem send_asks:Asks 219 [] [] (fun _=>true):=fun c=>by
 show Av.Spec _ _ _ [.agg 4 [int c.s,str c.o,str c.q,str c.p]] _ _
 refine spec_enter Tryz.func219 rfl Tryz.ntmps219 rfl (fun _ hs=>?_)
 repeat' first|refine Zz ?_|intro _
 refine reK [] ⟨rfl,rfl⟩ ?_
 exact sbl
theorem recv_asks {g:Nat}{x:Pkt}:Asks 227 [.pointer (some ⟨g,0,none⟩)] [.var g 47 (pktA x)] (fun c=>decide (c.p=x.s)):=fun c=>by
 show Av.Spec _ _ _ [.agg 4 [int c.s,str c.o,str c.q,str c.p],ptr g] _ _
 refine spec_enter Tryz.func227 rfl Tryz.ntmps227 rfl (fun _ hs=>?_)
 repeat' first|refine Zz ?_|intro _
 refine reK _ ⟨rfl,rfl⟩ ?_
 exact sbl
theorem ended_asks {g:Nat}{x:Pkt}:Asks 322 [.pointer (some ⟨g,0,none⟩)] [.var g 47 (pktA x)] (fun c=>decide (c.p=x.k)):=fun c=>by
 show Av.Spec _ _ _ [.agg 4 [int c.s,str c.o,str c.q,str c.p],ptr g] _ _
 refine spec_enter Tryz.func322 rfl Tryz.ntmps322 rfl (fun _ hs=>?_)
 repeat' first|refine Zz ?_|intro _
 refine reK _ ⟨rfl,rfl⟩ ?_
 exact sbl
theorem nums_le {x:Pkt}(h:chkP x=true):x.q≤1099511627776∧x.h≤1099511627776∧x.t≤1099511627776∧1≤x.q:=by
 unfold chkP numsP at h
 rw [Bool.and_eq_true,decide_eq_true_iff] at h
 obtain⟨⟨h0,h1,_,h2,_,h3,_⟩,_⟩:=h
 exact⟨h1,h2,h3,h0⟩
set_option maxHeartbeats 2000000 in
instance fnLSend {d:List Ent}{h t:Int}{x:TxX}{xs:List AV}[hx:Ents xs d]:Ans Tryz.prog GL 143 [.agg 3 [.agg 1 [.sl 2 xs none],int h,int t],txA x] (DOk d∧TxB x) (.tup [dA (sndR d x.x).1,repA (sndR d x.x).2]):=⟨fun hp=>by
 have hp':=hp
 obtain⟨hd,hb⟩:=hp
 have h':=hx.out
 subst h'
 have b1:=hb.d
 have b2:=hb.s
 refine spec_enter Tryz.func143 rfl Tryz.ntmps143 rfl (fun _ hs=>?_)
 repeat' first|refine Zz ?_|intro _
 refine al_callK (args:=[.agg 3 [dA d,int h,int t],str x.x.s,fnv 219 []]) [] _ (by rw [hs];exact chan_spec send_asks (by simp) hd) (fun u m' hh=>?_) (List.Perm.refl _)
 obtain⟨rfl,rfl⟩:=hh
 unfold chaT sndR goes
 repeat' first|refine Zz ?_|intro _
 by_cases h1:chaE d x.x.s (fun _=>true)=0
 rotate_left
 ·rw [if_pos h1,decide_eq_true h1]
  repeat' first|refine Zz ?_|intro _
  refine reE ?_
  rfl
 rw [if_neg (not_not_intro h1),decide_eq_false (not_not_intro h1),decide_eq_true h1,if_pos h1,Bool.true_and]
 repeat' first|refine Zz ?_|intro _
 unfold chkN
 cases h2:chkP ⟨nxR d x.x.s,x.x.s,(enR d [72] x.x.s).p,x.x.d,x.x.a,x.x.f,x.x.g,x.x.h,x.x.t⟩
 ·rw [if_pos rfl,if_neg (show ¬ false=true by decide),decide_eq_true (show (1:Int)≠0 by decide)]
  repeat' first|refine Zz ?_|intro _
  refine reE ?_
  rfl
 rw [if_neg (show ¬ true=false by decide),if_pos rfl,decide_eq_false (show ¬ (0:Int)≠0 by decide)]
 repeat' first|refine Zz ?_|intro _
 cases h3:chaK d x.x.s
 ·rw [if_pos (.inl rfl)]
  repeat' first|refine Zz ?_|intro _
  refine reE ?_
  rfl
 repeat' first|refine Zz ?_|intro _
 cases h4:clB d (chaN d x.x.s)
 ·rw [if_pos (.inr rfl)]
  repeat' first|refine Zz ?_|intro _
  refine reE ?_
  rfl
 rw [if_neg (show ¬ (true=false∨true=false) by decide)]
 repeat' first|refine Zz ?_|intro _
 cases h5:lateP ⟨nxR d x.x.s,x.x.s,(enR d [72] x.x.s).p,x.x.d,x.x.a,x.x.f,x.x.g,x.x.h,x.x.t⟩ (latC (clR d (chaN d x.x.s)).l).h (latC (clR d (chaN d x.x.s)).l).t
 rotate_left
 ·rw [if_pos rfl]
  repeat' first|refine Zz ?_|intro _
  refine reE ?_
  rfl
 rw [if_neg (show ¬ false=true by decide)]
 have q1:DOk d∧x.x.s.length≤1000000000∧x.x.d.length≤1000000000:=⟨hd,by omega,by omega⟩
 have q2:nxR d x.x.s≤1099511627776∧x.x.h≤1099511627776∧x.x.t≤1099511627776∧1≤nxR d x.x.s:=nums_le h2
 obtain⟨q3,q4,q5,q8⟩:=q2
 have q6:DOk (sendR d ⟨nxR d x.x.s,x.x.s,(enR d [72] x.x.s).p,x.x.d,x.x.a,x.x.f,x.x.g,x.x.h,x.x.t⟩).1:=sendR_dok hd
 repeat' first|refine Zz ?_|intro _
 unfold thenR
 dsimp only
 by_cases h6:(sendR d ⟨nxR d x.x.s,x.x.s,(enR d [72] x.x.s).p,x.x.d,x.x.a,x.x.f,x.x.g,x.x.h,x.x.t⟩).2=0
 rotate_left
 ·rw [if_neg h6,decide_eq_false h6]
  repeat' first|refine Zz ?_|intro _
  rw [decide_eq_false h6]
  repeat' first|refine Zz ?_|intro _
  refine reE ?_
  rfl
 rw [if_pos h6,decide_eq_true h6]
 repeat' first|refine Zz ?_|intro _
 have q7:DOk (putR (sendR d ⟨nxR d x.x.s,x.x.s,(enR d [72] x.x.s).p,x.x.d,x.x.a,x.x.f,x.x.g,x.x.h,x.x.t⟩).1 (kyW [80] x.x.s (nxR d x.x.s)) (comP ⟨nxR d x.x.s,x.x.s,(enR d [72] x.x.s).p,x.x.d,x.x.a,x.x.f,x.x.g,x.x.h,x.x.t⟩)).1:=putR_dok q6
 by_cases h7:(putR (sendR d ⟨nxR d x.x.s,x.x.s,(enR d [72] x.x.s).p,x.x.d,x.x.a,x.x.f,x.x.g,x.x.h,x.x.t⟩).1 (kyW [80] x.x.s (nxR d x.x.s)) (comP ⟨nxR d x.x.s,x.x.s,(enR d [72] x.x.s).p,x.x.d,x.x.a,x.x.f,x.x.g,x.x.h,x.x.t⟩)).2=0
 rotate_left
 ·rw [if_neg h7,decide_eq_false h7]
  repeat' first|refine Zz ?_|intro _
  refine reE ?_
  rfl
 rw [if_pos h7,decide_eq_true h7]
 repeat' first|refine Zz ?_|intro _
 refine reE ?_
 rfl⟩
end Go.Proofs.YtppngnhckahbnaaGreatDoor

namespace Go.Proofs.YtppngnhckahbnaaGreatDoor
open Go Go.RowKit Tw Av
attribute [local irreducible] clB enB
def Eb (n:Int):Prop:=0≤n∧n < 256
theorem e0:Eb 0:=⟨by decide,by decide⟩
theorem e1:Eb 1:=⟨by decide,by decide⟩
theorem e11:Eb 11:=⟨by decide,by decide⟩
theorem e15:Eb 15:=⟨by decide,by decide⟩
theorem e16:Eb 16:=⟨by decide,by decide⟩
theorem e17:Eb 17:=⟨by decide,by decide⟩
theorem putR_b {d:List Ent}{k v:Bs}:Eb (putR d k v).2:=by
 unfold putR
 split
 ·first|exact e0|exact e1|exact e11|exact e15|exact e16|exact e17
 ·unfold putE
  split <;> (try split) <;> (try split) <;> first|exact e0|exact e1|exact e11|exact e15|exact e16|exact e17
theorem moreR_b {d:List Ent}{k:Bs}{n:Wd}:Eb (moreR k n d).2:=by
 unfold moreR
 split
 ·exact putR_b
 ·first|exact e0|exact e1|exact e11|exact e15|exact e16|exact e17
theorem lessR_b {d:List Ent}{k:Bs}{n:Wd}:Eb (lessR k n d).2:=by
 unfold lessR
 split
 ·first|exact e0|exact e1|exact e11|exact e15|exact e16|exact e17
 ·split
  ·first|exact e0|exact e1|exact e11|exact e15|exact e16|exact e17
  ·exact putR_b
theorem thenR_b {a b:List Ent→List Ent × Int}{d:List Ent}(ha:∀ d,Eb (a d).2)(hb:∀ d,Eb (b d).2):Eb (thenR a b d).2:=by
 unfold thenR
 split
 ·exact hb _
 ·exact ha _
theorem mintR_b {d:List Ent}{a c:Bs}{n:Wd}:Eb (mintR d a c n).2:=by
 unfold mintR
 split
 ·first|exact e0|exact e1|exact e11|exact e15|exact e16|exact e17
 ·split
  ·first|exact e0|exact e1|exact e11|exact e15|exact e16|exact e17
  ·exact thenR_b (fun _=>moreR_b) (fun _=>moreR_b)
theorem moveR_b {d:List Ent}{a b c:Bs}{n:Wd}:Eb (moveR d a b c n).2:=by
 unfold moveR
 split
 ·first|exact e0|exact e1|exact e11|exact e15|exact e16|exact e17
 ·split
  ·first|exact e0|exact e1|exact e11|exact e15|exact e16|exact e17
  ·exact thenR_b (fun _=>lessR_b) (fun _=>moreR_b)
theorem recvR_e {d:List Ent}{x:Pkt}:0≤(recvR d x).2∧(recvR d x).2 < 256:=by
 show Eb _
 unfold recvR
 split
 ·exact⟨by decide,by decide⟩
 ·split
  ·exact moveR_b
  ·exact mintR_b
set_option maxHeartbeats 4000000 in
instance fnLRecv {d:List Ent}{h t:Int}{x:TxX}{xs:List AV}[hx:Ents xs d]:Ans Tryz.prog GL 144 [.agg 3 [.agg 1 [.sl 2 xs none],int h,int t],txA x] (DOk d∧TxB x) (.tup [dA (rcvR d x h t).1,repA (rcvR d x h t).2]):=⟨fun hp=>by
 have hp':=hp
 obtain⟨hd,hb⟩:=hp
 have h':=hx.out
 subst h'
 have b1:=hb.d
 have b2:=hb.s
 have b3:=hb.k
 refine spec_enter Tryz.func144 rfl Tryz.ntmps144 rfl (fun _ hs=>?_)
 repeat' first|refine Zz ?_|intro _
 unfold rcvR chkN
 cases h1:chkP x.x
 ·rw [if_pos rfl,if_neg (show ¬ false=true by decide),decide_eq_true (show (1:Int)≠0 by decide)]
  repeat' first|refine Zz ?_|intro _
  refine reE ?_
  rfl
 rw [if_neg (show ¬ true=false by decide),if_pos rfl,decide_eq_false (show ¬ (0:Int)≠0 by decide)]
 obtain⟨q1,q2,q3,q4⟩:=nums_le h1
 repeat' first|refine Zz ?_|intro _
 rename_i g2 g3 g4 g5 g6
 refine al_makeFunc (vs:=[.pointer (some ⟨g6,0,none⟩)]) ?_
 refine al_callK (args:=[.agg 3 [dA d,int h,int t],str x.x.k,fnv 227 [.pointer (some ⟨g6,0,none⟩)]]) [.var g6 47 (pktA x.x)] _ (by rw [hs];exact chan_spec recv_asks (by simp [Value.oneCell']) hd) (fun u m' hh=>?_) (List.Perm.refl _)
 obtain⟨rfl,rfl⟩:=hh
 unfold chaT
 repeat' first|refine Zz ?_|intro _
 by_cases h2:chaE d x.x.k (fun c=>decide (c.p=x.x.s))=0
 rotate_left
 ·rw [if_pos h2,decide_eq_true h2]
  repeat' first|refine Zz ?_|intro _
  refine reE ?_
  rfl
 rw [if_neg (not_not_intro h2),decide_eq_false (not_not_intro h2),decide_eq_true h2,if_pos h2,Bool.true_and]
 repeat' first|refine Zz ?_|intro _
 cases h3:lateP x.x h t
 rotate_left
 ·rw [if_pos rfl]
  repeat' first|refine Zz ?_|intro _
  refine reE ?_
  rfl
 rw [if_neg (show ¬ false=true by decide)]
 repeat' first|refine Zz ?_|intro _
 cases h4:(gO d (kyW [71] x.x.k x.x.q)).isSome
 rotate_left
 ·rw [if_pos rfl]
  repeat' first|refine Zz ?_|intro _
  refine reE ?_
  rfl
 rw [if_neg (show ¬ false=true by decide)]
 repeat' first|refine Zz ?_|intro _
 cases h5:chaK d x.x.k
 ·rw [if_pos rfl]
  repeat' first|refine Zz ?_|intro _
  refine reE ?_
  rfl
 rw [if_neg (show ¬ true=false by decide)]
 repeat' first|refine Zz ?_|intro _
 by_cases h6:prE d (chaN d x.x.k) x.t t (kyW [80] x.x.s x.x.q) (comP x.x) x.f=0
 rotate_left
 ·rw [if_pos h6,decide_eq_true h6]
  repeat' first|refine Zz ?_|intro _
  refine reE ?_
  rfl
 rw [if_neg (not_not_intro h6),decide_eq_false (not_not_intro h6)]
 have q5:DOk d∧x.x.s.length≤400000000∧x.x.d.length≤400000000∧x.x.k.length≤400000000:=⟨hd,b2,b1,b3⟩
 have q6:DOk (recvR d x.x).1:=recvR_dok hd
 have q7:=recvR_e (d:=d) (x:=x.x)
 unfold ackR
 repeat' first|refine Zz ?_|intro _
 by_cases h7:(recvR d x.x).2=0
 ·rw [if_pos h7,if_pos h7,decide_eq_false (not_not_intro h7)]
  repeat' first|refine Zz ?_|intro _
  refine reE ?_
  rfl
 ·rw [if_neg h7,if_neg h7,decide_eq_true h7]
  have q9:(failB (recvR d x.x).2).length≤1000000000:=by
   unfold failB
   exact (by decide:2≤1000000000)
  repeat' first|refine Zz ?_|intro _
  refine reE ?_
  rfl⟩
end Go.Proofs.YtppngnhckahbnaaGreatDoor

namespace Go.Proofs.YtppngnhckahbnaaGreatDoor
open Go Go.RowKit Tw Av
attribute [local irreducible] clB enB
def Shows (f:FuncId)(cs:List Value)(m:List Av.Piece)(i k:Bs)(b:Bool)(e:Int):Prop:=Av.Spec Tryz.prog GL f (str i::str k::cs.map .lit) m fun u m'=>u=.tup [boo b,int e]∧m'=m
set_option maxHeartbeats 4000000 in
theorem ended_spec {f:FuncId}[FnB Tryz.prog f]{cs:List Value}{m:List Av.Piece}{d:List Ent}{h t:Int}{x:Pkt}{b:Bool}{e:Int}(ha:Shows f cs m (chaN d x.s) (kyW [71] x.k x.q) b e)(hc:∀ v ∈ cs,v.oneCell'=true)(hd:DOk d)(hk:chkP x=true)(hb1:x.s.length≤400000000)(hb2:x.d.length≤400000000) :
  Av.Spec Tryz.prog GL 235 [.agg 3 [dA d,int h,int t],pktA x,fnv f cs] m fun u m'=>u=.tup [dA (endR d x b e).1,repA (endR d x b e).2]∧m'=m:=by
 obtain⟨q1,q2,q3,q4⟩:=nums_le hk
 unfold endR
 refine spec_enter Tryz.func235 rfl Tryz.ntmps235 rfl (fun _ hs=>?_)
 repeat' first|refine Zz ?_|intro _
 rename_i g1 g2 g3 g4
 refine al_makeFunc (vs:=[.pointer (some ⟨g2,0,none⟩)]) ?_
 refine al_callK (args:=[.agg 3 [dA d,int h,int t],str x.s,fnv 322 [.pointer (some ⟨g2,0,none⟩)]]) [.var g2 47 (pktA x)] (.var g4 59 (.agg 3 [.lit (.int .i64 0),.lit (.int .i64 0),str []])::.var g3 61 (.agg 1 [.lit (.slice none 0 0)])::.var g1 136 (.agg 3 [dA d,int h,int t])::m) (by rw [hs];exact chan_spec ended_asks (by simp [Value.oneCell']) hd) (fun u m' hh=>?_) (List.perm_middle (l₁:=[Av.Piece.var g4 59 (.agg 3 [.lit (.int .i64 0),.lit (.int .i64 0),str []]),Av.Piece.var g3 61 (.agg 1 [.lit (.slice none 0 0)])]) (l₂:=Av.Piece.var g1 136 (.agg 3 [dA d,int h,int t])::m))
 obtain⟨rfl,rfl⟩:=hh
 unfold chaT
 repeat' first|refine Zz ?_|intro _
 by_cases h2:chaE d x.s (fun c=>decide (c.p=x.k))=0
 rotate_left
 ·rw [if_pos h2,decide_eq_true h2]
  repeat' first|refine Zz ?_|intro _
  refine reK m ⟨rfl,rfl⟩ ?_
  exact sbl
 rw [if_neg (not_not_intro h2),decide_eq_false (not_not_intro h2),decide_eq_true h2,if_pos h2,Bool.true_and]
 repeat' first|refine Zz ?_|intro _
 cases hg:gO d (kyW [80] x.s x.q) with
 | none=>
  rw [if_pos (.inl (by simp))]
  repeat' first|refine Zz ?_|intro _
  refine reK m ⟨rfl,rfl⟩ ?_
  exact sbl
 | some v=>
 have hv:valE d (kyW [80] x.s x.q)=v:=by
  unfold valE
  rw [hg]
  rfl
 rw [hv]
 repeat' first|refine Zz ?_|intro _
 by_cases h3:v=comP x
 rotate_left
 ·rw [if_pos (.inl (fun e=>h3 (Option.some.inj e))),decide_eq_true h3]
  repeat' first|refine Zz ?_|intro _
  refine reK m ⟨rfl,rfl⟩ ?_
  exact sbl
 rw [decide_eq_false (not_not_intro h3)]
 repeat' first|refine Zz ?_|intro _
 cases h4:chaK d x.s
 ·rw [if_pos (.inr rfl)]
  repeat' first|refine Zz ?_|intro _
  refine reK m ⟨rfl,rfl⟩ ?_
  exact sbl
 rw [if_neg (show ¬ (some v≠some (comP x)∨true=false) by rw [h3];simp)]
 repeat' first|refine Zz ?_|intro _
 rename_i g5
 refine al_callV (args:=[str (chaN d x.s),str (kyW [71] x.k x.q)]) (cs:=cs) m [Av.Piece.var g5 84 (endA (enR d [72] x.s)),.var g2 47 (pktA x),.var g4 59 (.agg 3 [.lit (.int .i64 0),.lit (.int .i64 0),str []]),.var g3 61 (.agg 1 [.lit (.slice none 0 0)]),.var g1 136 (.agg 3 [dA d,int h,int t])] (by rw [hs];exact ha) (fun u m' hh=>?_) (List.perm_append_comm (l₁:=[Av.Piece.var g5 84 (endA (enR d [72] x.s)),.var g2 47 (pktA x),.var g4 59 (.agg 3 [.lit (.int .i64 0),.lit (.int .i64 0),str []]),.var g3 61 (.agg 1 [.lit (.slice none 0 0)]),.var g1 136 (.agg 3 [dA d,int h,int t])]) (l₂:=m)) (hcs:=hc)
 obtain⟨rfl,rfl⟩:=hh
 refine al_st (fun ok w hS=>hS.perm (m':=[Av.Piece.var g5 84 (endA (enR d [72] x.s)),.var g2 47 (pktA x),.var g4 59 (.agg 3 [.lit (.int .i64 0),.lit (.int .i64 0),str []]),.var g3 61 (.agg 1 [.lit (.slice none 0 0)]),.var g1 136 (.agg 3 [dA d,int h,int t])]++m') List.perm_append_comm) ?_
 repeat' first|refine Zz ?_|intro _
 by_cases h5:e=0
 rotate_left
 ·rw [if_pos h5,decide_eq_true h5]
  repeat' first|refine Zz ?_|intro _
  refine reK m' ⟨rfl,rfl⟩ ?_
  exact sbl
 rw [if_neg (not_not_intro h5),decide_eq_false (not_not_intro h5)]
 repeat' first|refine Zz ?_|intro _
 have q5:DOk d∧x.s.length≤1000000000∧x.d.length≤1000000000:=⟨hd,by omega,by omega⟩
 have q6:DOk (backR d x).1:=backR_dok hd
 cases b
 ·rw [if_neg (fun e=>by cases e.1),if_neg (show ¬ false=true by decide)]
  repeat' first|refine Zz ?_|intro _
  rw [decide_eq_false (not_not_intro h5)]
  repeat' first|refine Zz ?_|intro _
  refine reK m' ⟨rfl,rfl⟩ ?_
  exact sbl
 ·by_cases h6:(backR d x).2=0
  rotate_left
  ·rw [if_pos ⟨rfl,h6⟩]
   repeat' first|refine Zz ?_|intro _
   rw [decide_eq_true h6]
   repeat' first|refine Zz ?_|intro _
   refine reK m' ⟨rfl,rfl⟩ ?_
   exact sbl
  rw [if_neg (fun e=>e.2 h6),if_pos rfl]
  repeat' first|refine Zz ?_|intro _
  rw [decide_eq_false (not_not_intro h6)]
  repeat' first|refine Zz ?_|intro _
  refine reK m' ⟨rfl,rfl⟩ ?_
  exact sbl
end Go.Proofs.YtppngnhckahbnaaGreatDoor

namespace Go.Proofs.YtppngnhckahbnaaGreatDoor
open Go Go.RowKit Tw Av
attribute [local irreducible] clB enB lateP
abbrev lA (d:List Ent)(h t:Int):AV:=.agg 3 [dA d,int h,int t]
set_option maxHeartbeats 1000000 in
theorem ack_shows {d:List Ent}{h t n:Int}{x:TxX}{i k:Bs}{g1 g2 g3:Nat}(hp:DOk d∧TxB x):Shows 236 [.pointer (some ⟨g3,0,none⟩),.pointer (some ⟨g1,0,none⟩),.pointer (some ⟨g2,0,none⟩)] [.var g3 57 (int n),.var g2 54 (txA x),.var g1 136 (lA d h t)] i k (decide (n≠0)) (prE d i x.t t k (rcpB x.a) x.f):=by
 have b1:=hp.2.a
 show Av.Spec _ _ _ [str i,str k,ptr g3,ptr g1,ptr g2] _ _
 refine spec_enter Tryz.func236 rfl Tryz.ntmps236 rfl (fun _ hs=>?_)
 repeat' first|refine Zz ?_|intro _
 refine reK _ ⟨rfl,rfl⟩ ?_
 exact sbl
set_option maxHeartbeats 2000000 in
theorem tim_shows {d:List Ent}{h t:Int}{x:TxX}{g1 g2:Nat}(hp:DOk d∧TxB x):Shows 237 [.pointer (some ⟨g1,0,none⟩),.pointer (some ⟨g2,0,none⟩)] [.var g2 54 (txA x),.var g1 136 (lA d h t)] (chaN d x.x.s) (kyW [71] x.x.k x.x.q) true (timE d x t):=by
 obtain⟨hd,hb⟩:=hp
 have q1:DOk d∧x.g.a.m≤9223372036854775807∧x.g.b.m≤9223372036854775807:=⟨hd,hb.gm⟩
 show Av.Spec _ _ _ [str (chaN d x.x.s),str (kyW [71] x.x.k x.x.q),ptr g1,ptr g2] _ _
 unfold timE
 refine spec_enter Tryz.func237 rfl Tryz.ntmps237 rfl (fun _ hs=>?_)
 repeat' first|refine Zz ?_|intro _
 by_cases h1:goE d (chaN d x.x.s) x.t t (kyW [71] x.x.k x.x.q) x.g=0
 rotate_left
 ·rw [if_neg (fun e=>h1 e.1),decide_eq_false h1]
  repeat' first|refine Zz ?_|intro _
  refine reK _ ⟨rfl,rfl⟩ ?_
  exact sbl
 rw [decide_eq_true h1]
 repeat' first|refine Zz ?_|intro _
 cases h2:lateP x.x (goR d (chaN d x.x.s) x.t t (kyW [71] x.x.k x.x.q) x.g).h (goR d (chaN d x.x.s) x.t t (kyW [71] x.x.k x.x.q) x.g).t
 ·rw [if_pos ⟨h1,rfl⟩]
  repeat' first|refine Zz ?_|intro _
  refine reK _ ⟨rfl,rfl⟩ ?_
  exact sbl
 ·rw [if_neg (fun e=>by cases e.2)]
  repeat' first|refine Zz ?_|intro _
  refine reK _ ⟨rfl,rfl⟩ ?_
  exact sbl
set_option maxHeartbeats 2000000 in
instance fnLTimeout {d:List Ent}{h t:Int}{x:TxX}{xs:List AV}[hx:Ents xs d]:Ans Tryz.prog GL 146 [.agg 3 [.agg 1 [.sl 2 xs none],int h,int t],txA x] (DOk d∧TxB x) (.tup [dA (timR d x t).1,repA (timR d x t).2]):=⟨fun hp=>by
 have hp':=hp
 obtain⟨hd,hb⟩:=hp
 have h':=hx.out
 subst h'
 have b1:=hb.d
 have b2:=hb.s
 refine spec_enter Tryz.func146 rfl Tryz.ntmps146 rfl (fun _ hs=>?_)
 repeat' first|refine Zz ?_|intro _
 rename_i g1 g2 g3 g4
 unfold timR chkN
 cases h1:chkP x.x
 ·rw [if_pos rfl,if_neg (show ¬ false=true by decide),decide_eq_true (show (1:Int)≠0 by decide)]
  repeat' first|refine Zz ?_|intro _
  refine reE ?_
  rfl
 rw [if_neg (show ¬ true=false by decide),if_pos rfl,decide_eq_false (show ¬ (0:Int)≠0 by decide)]
 repeat' first|refine Zz ?_|intro _
 refine al_makeFunc (vs:=[.pointer (some ⟨g1,0,none⟩),.pointer (some ⟨g2,0,none⟩)]) ?_
 refine al_callK (args:=[lA d h t,pktA x.x,fnv 237 [.pointer (some ⟨g1,0,none⟩),.pointer (some ⟨g2,0,none⟩)]]) [.var g2 54 (txA x),.var g1 136 (lA d h t)] [Av.Piece.var g4 59 (.agg 3 [.lit (.int .i64 0),.lit (.int .i64 0),str []]),Av.Piece.var g3 61 (.agg 1 [.lit (.slice none 0 0)])] (by rw [hs];exact ended_spec (tim_shows hp') (by simp [Value.oneCell']) hd h1 b2 b1) (fun u m' hh=>?_) (List.perm_append_comm (l₁:=[Av.Piece.var g4 59 (.agg 3 [.lit (.int .i64 0),.lit (.int .i64 0),str []]),Av.Piece.var g3 61 (.agg 1 [.lit (.slice none 0 0)])]) (l₂:=[Av.Piece.var g2 54 (txA x),.var g1 136 (lA d h t)]))
 obtain⟨rfl,rfl⟩:=hh
 repeat' first|refine Zz ?_|intro _
 refine reE ?_
 rfl⟩
set_option maxHeartbeats 2000000 in
instance fnLAcks {d:List Ent}{h t:Int}{x:TxX}{xs:List AV}[hx:Ents xs d]:Ans Tryz.prog GL 145 [.agg 3 [.agg 1 [.sl 2 xs none],int h,int t],txA x] (DOk d∧TxB x) (.tup [dA (acksR d x t).1,repA (acksR d x t).2]):=⟨fun hp=>by
 have hp':=hp
 obtain⟨hd,hb⟩:=hp
 have h':=hx.out
 subst h'
 have b1:=hb.d
 have b2:=hb.s
 refine spec_enter Tryz.func145 rfl Tryz.ntmps145 rfl (fun _ hs=>?_)
 repeat' first|refine Zz ?_|intro _
 rename_i g1 g2 g3 g4 g5
 unfold acksR chkN
 cases h1:chkP x.x
 ·rw [if_pos (.inl rfl),if_neg (show ¬ false=true by decide),decide_eq_true (show (1:Int)≠0 by decide)]
  repeat' first|refine Zz ?_|intro _
  refine reE ?_
  rfl
 rw [if_pos rfl,decide_eq_false (show ¬ (0:Int)≠0 by decide)]
 cases h2:ackIs x.a
 ·rw [if_pos (.inr rfl)]
  repeat' first|refine Zz ?_|intro _
  refine reE ?_
  rfl
 rw [if_neg (show ¬ (true=false∨true=false) by decide)]
 repeat' first|refine Zz ?_|intro _
 refine al_makeFunc (vs:=[.pointer (some ⟨g5,0,none⟩),.pointer (some ⟨g1,0,none⟩),.pointer (some ⟨g2,0,none⟩)]) ?_
 refine al_callK (args:=[lA d h t,pktA x.x,fnv 236 [.pointer (some ⟨g5,0,none⟩),.pointer (some ⟨g1,0,none⟩),.pointer (some ⟨g2,0,none⟩)]]) [Av.Piece.var g5 57 (int (ackV x.a)),.var g2 54 (txA x),.var g1 136 (lA d h t)] [Av.Piece.var g4 59 (.agg 3 [.lit (.int .i64 0),.lit (.int .i64 0),str []]),Av.Piece.var g3 61 (.agg 1 [.lit (.slice none 0 0)])] (by rw [hs];exact ended_spec (ack_shows hp') (by simp [Value.oneCell']) hd h1 b2 b1) (fun u m' hh=>?_) (List.Perm.cons _ (List.perm_append_comm (l₁:=[Av.Piece.var g4 59 (.agg 3 [.lit (.int .i64 0),.lit (.int .i64 0),str []]),Av.Piece.var g3 61 (.agg 1 [.lit (.slice none 0 0)])]) (l₂:=[Av.Piece.var g2 54 (txA x),.var g1 136 (lA d h t)])))
 obtain⟨rfl,rfl⟩:=hh
 repeat' first|refine Zz ?_|intro _
 refine reE ?_
 rfl⟩
end Go.Proofs.YtppngnhckahbnaaGreatDoor

namespace Go.Proofs.YtppngnhckahbnaaGreatDoor
open Go Go.RowKit Tw Av
def callV (k:Int):AV:=
 if k=1 then fnv 135 [] else if k=2 then fnv 136 [] else if k=3 then fnv 137 [] else if k=4 then fnv 138 [] else if k=5 then fnv 139 [] else if k=6 then fnv 139 [] else if k=7 then fnv 140 [] else if k=8 then fnv 140 [] else if k=9 then fnv 141 [] else if k=10 then fnv 141 [] else if k=11 then fnv 142 [] else if k=12 then fnv 142 [] else if k=13 then fnv 143 [] else if k=14 then fnv 144 [] else if k=15 then fnv 145 [] else if k=16 then fnv 146 [] else .lit .nilFunc
theorem call1:callV 1=fnv 135 []:=rfl
theorem do1 {d:List Ent}{x:TxX}{h t:Int}(e:x.k=1):doR d x h t=fundR d x.x:=by
 unfold doR
 rw [e]
 rfl
theorem call2:callV 2=fnv 136 []:=rfl
theorem do2 {d:List Ent}{x:TxX}{h t:Int}(e:x.k=2):doR d x h t=movR d x.x:=by
 unfold doR
 rw [e]
 rfl
theorem call3:callV 3=fnv 137 []:=rfl
theorem do3 {d:List Ent}{x:TxX}{h t:Int}(e:x.k=3):doR d x h t=creR d x:=by
 unfold doR
 rw [e]
 rfl
theorem call4:callV 4=fnv 138 []:=rfl
theorem do4 {d:List Ent}{x:TxX}{h t:Int}(e:x.k=4):doR d x h t=updR d x t:=by
 unfold doR
 rw [e]
 rfl
theorem call5:callV 5=fnv 139 []:=rfl
theorem do5 {d:List Ent}{x:TxX}{h t:Int}(e:x.k=5):doR d x h t=conR d x t:=by
 unfold doR
 rw [e]
 rfl
theorem call6:callV 6=fnv 139 []:=rfl
theorem do6 {d:List Ent}{x:TxX}{h t:Int}(e:x.k=6):doR d x h t=conR d x t:=by
 unfold doR
 rw [e]
 rfl
theorem call7:callV 7=fnv 140 []:=rfl
theorem do7 {d:List Ent}{x:TxX}{h t:Int}(e:x.k=7):doR d x h t=codR d x t:=by
 unfold doR
 rw [e]
 rfl
theorem call8:callV 8=fnv 140 []:=rfl
theorem do8 {d:List Ent}{x:TxX}{h t:Int}(e:x.k=8):doR d x h t=codR d x t:=by
 unfold doR
 rw [e]
 rfl
theorem call9:callV 9=fnv 141 []:=rfl
theorem do9 {d:List Ent}{x:TxX}{h t:Int}(e:x.k=9):doR d x h t=opnR d x t:=by
 unfold doR
 rw [e]
 rfl
theorem call10:callV 10=fnv 141 []:=rfl
theorem do10 {d:List Ent}{x:TxX}{h t:Int}(e:x.k=10):doR d x h t=opnR d x t:=by
 unfold doR
 rw [e]
 rfl
theorem call11:callV 11=fnv 142 []:=rfl
theorem do11 {d:List Ent}{x:TxX}{h t:Int}(e:x.k=11):doR d x h t=opdR d x t:=by
 unfold doR
 rw [e]
 rfl
theorem call12:callV 12=fnv 142 []:=rfl
theorem do12 {d:List Ent}{x:TxX}{h t:Int}(e:x.k=12):doR d x h t=opdR d x t:=by
 unfold doR
 rw [e]
 rfl
theorem call13:callV 13=fnv 143 []:=rfl
theorem do13 {d:List Ent}{x:TxX}{h t:Int}(e:x.k=13):doR d x h t=sndR d x.x:=by
 unfold doR
 rw [e]
 rfl
theorem call14:callV 14=fnv 144 []:=rfl
theorem do14 {d:List Ent}{x:TxX}{h t:Int}(e:x.k=14):doR d x h t=rcvR d x h t:=by
 unfold doR
 rw [e]
 rfl
theorem call15:callV 15=fnv 145 []:=rfl
theorem do15 {d:List Ent}{x:TxX}{h t:Int}(e:x.k=15):doR d x h t=acksR d x t:=by
 unfold doR
 rw [e]
 rfl
theorem call16:callV 16=fnv 146 []:=rfl
theorem do16 {d:List Ent}{x:TxX}{h t:Int}(e:x.k=16):doR d x h t=timR d x t:=by
 unfold doR
 rw [e]
 rfl
theorem callN {k:Int}(h:¬ (1≤k∧k≤16)):callV k=.lit .nilFunc:=by
 unfold callV
 repeat rw [if_neg (by omega)]
theorem doN {d:List Ent}{x:TxX}{h t:Int}(e:¬ (1≤x.k∧x.k≤16)):doR d x h t=failR d 1:=by
 unfold doR
 repeat rw [if_neg (by omega)]
attribute [local irreducible] clB enB lateP fundR movR creR updR conR codR opnR opdR sndR rcvR acksR timR callV doR
section
variable {P:Program} {N:Nat} {ops:Array Oper} {Q:Exit→Act→World→Prop} {rest:List Oper} {s:Av.Base} {e:Av.Env} {m:List Av.Piece} {d:Nat} {ty:TypeId} {pos:String} {af:Array Edge}
def isFn:Option TypeDesc→Bool
 | some (.func _ _ _)=>true
 | _=>false
theorem isFn_out {o:Option TypeDesc}(h:isFn o=true):∃ A B C,o=some (.func A B C):=by
 unfold isFn at h
 split at h
 ·exact⟨_,_,_,rfl⟩
 ·cases h
theorem al_fnNT {op:BinOp}{T yT:TypeId}(hT:isFn (P.underlying T)=true){x y:Operand}{c:Bool}(h:AL P N ops Q s rest ((d,boo c)::e) m)(hx:Av.ev e x=some (.lit .nilFunc):=by exact rfl)(hy:Av.ev e y=some (.lit .nilFunc):=by exact rfl)(hc:eqs op true=some c:=by exact rfl)(hd:Nat.blt d N=true:=by exact rfl):AL P N ops Q s (⟨some d,.binOp op T x y yT,ty,pos,af,none⟩::rest) e m:=
 al_lit rfl (fun ok w A hA=>by
  obtain⟨_,_,_,ht⟩:=isFn_out hT
  exact run_eqs (hA.lit hx) (hA.lit hy) (by simp) (by simp) (by simp) (by simp) (by unfold eqGuard;cases op <;> rfl) (by
  have h:∀ d:Nat,(Op.equalIn (d + 1) T .nilFunc .nilFunc).run P w=.ok true w:=fun d=>by simp [Op.equalIn,run_underlying ht]
  exact h 9999) hc) hd h
theorem al_fnNF {op:BinOp}{T yT:TypeId}(hT:isFn (P.underlying T)=true){x y:Operand}{f:FuncId}{cs:List Value}{c:Bool}(h:AL P N ops Q s rest ((d,boo c)::e) m)(hx:Av.ev e x=some (fnv f cs):=by exact rfl)(hy:Av.ev e y=some (.lit .nilFunc):=by exact rfl)(hc:eqs op false=some c:=by exact rfl)(hd:Nat.blt d N=true:=by exact rfl):AL P N ops Q s (⟨some d,.binOp op T x y yT,ty,pos,af,none⟩::rest) e m:=
 al_lit rfl (fun ok w A hA=>by
  obtain⟨_,_,_,ht⟩:=isFn_out hT
  exact run_eqs (hA.lit hx) (hA.lit hy) (by simp) (by simp) (by simp) (by simp) (by unfold eqGuard;cases op <;> rfl) (by
  have h:∀ d:Nat,(Op.equalIn (d + 1) T (.func (.func f) #[] cs.toArray) .nilFunc).run P w=.ok false w:=fun d=>by simp [Op.equalIn,run_underlying ht]
  exact h 9999) hc) hd h
end
theorem kinds {k:Int}(h:1≤k∧k≤16):k=1∨k=2∨k=3∨k=4∨k=5∨k=6∨k=7∨k=8∨k=9∨k=10∨k=11∨k=12∨k=13∨k=14∨k=15∨k=16:=by omega
set_option maxHeartbeats 2000000 in
instance fnCoCall {k:Int}:Ans Tryz.prog GL 59 [int k] True (callV k):=⟨fun _=>by
 refine spec_enter Tryz.func59 rfl Tryz.ntmps59 rfl (fun _ hs=>?_)
 by_cases h:1≤k∧k≤16
 ·rcases kinds h with rfl|rfl|rfl|rfl|rfl|rfl|rfl|rfl|rfl|rfl|rfl|rfl|rfl|rfl|rfl|rfl
  all_goals
   repeat' first|refine Zz ?_|intro _
   refine reE ?_
   first|exact call1.symm|exact call2.symm|exact call3.symm|exact call4.symm|exact call5.symm|exact call6.symm|exact call7.symm|exact call8.symm|exact call9.symm|exact call10.symm|exact call11.symm|exact call12.symm|exact call13.symm|exact call14.symm|exact call15.symm|exact call16.symm
 ·repeat' first|refine Zz ?_|intro _
  refine reE ?_
  exact (callN h).symm⟩
set_option maxHeartbeats 4000000 in
instance fnCoDo {d:List Ent}{h t:Int}{x:TxX}{xs:List AV}[hx:Ents xs d]:Ans Tryz.prog GL 14 [.agg 1 [.sl 2 xs none],txA x,int h,int t] (DOk d∧TxB x) (.tup [dA (doR d x h t).1,repA (doR d x h t).2]):=⟨fun hp=>by
 have h':=hx.out
 subst h'
 refine spec_enter Tryz.func14 rfl Tryz.ntmps14 rfl (fun _ hs=>?_)
 repeat' first|refine Zz ?_|intro _
 by_cases hk:1≤x.k∧x.k≤16
 rotate_left
 ·rw [callN hk,doN hk]
  repeat' first|refine Zz ?_|intro _
  refine al_fnNT (by kernel_rfl) ?_
  repeat' first|refine Zz ?_|intro _
  refine reE ?_
  rfl
 ·rcases kinds hk with h|h|h|h|h|h|h|h|h|h|h|h|h|h|h|h
  ·rw [h,call1,do1 h]
   repeat' first|refine Zz ?_|intro _
   refine al_fnNF (by kernel_rfl) ?_
   repeat' first|refine Zz ?_|intro _
   refine reE ?_
   rfl
  ·rw [h,call2,do2 h]
   repeat' first|refine Zz ?_|intro _
   refine al_fnNF (by kernel_rfl) ?_
   repeat' first|refine Zz ?_|intro _
   refine reE ?_
   rfl
  ·rw [h,call3,do3 h]
   repeat' first|refine Zz ?_|intro _
   refine al_fnNF (by kernel_rfl) ?_
   repeat' first|refine Zz ?_|intro _
   refine reE ?_
   rfl
  ·rw [h,call4,do4 h]
   repeat' first|refine Zz ?_|intro _
   refine al_fnNF (by kernel_rfl) ?_
   repeat' first|refine Zz ?_|intro _
   refine reE ?_
   rfl
  ·rw [h,call5,do5 h]
   repeat' first|refine Zz ?_|intro _
   refine al_fnNF (by kernel_rfl) ?_
   repeat' first|refine Zz ?_|intro _
   refine reE ?_
   rfl
  ·rw [h,call6,do6 h]
   repeat' first|refine Zz ?_|intro _
   refine al_fnNF (by kernel_rfl) ?_
   repeat' first|refine Zz ?_|intro _
   refine reE ?_
   rfl
  ·rw [h,call7,do7 h]
   repeat' first|refine Zz ?_|intro _
   refine al_fnNF (by kernel_rfl) ?_
   repeat' first|refine Zz ?_|intro _
   refine reE ?_
   rfl
  ·rw [h,call8,do8 h]
   repeat' first|refine Zz ?_|intro _
   refine al_fnNF (by kernel_rfl) ?_
   repeat' first|refine Zz ?_|intro _
   refine reE ?_
   rfl
  ·rw [h,call9,do9 h]
   repeat' first|refine Zz ?_|intro _
   refine al_fnNF (by kernel_rfl) ?_
   repeat' first|refine Zz ?_|intro _
   refine reE ?_
   rfl
  ·rw [h,call10,do10 h]
   repeat' first|refine Zz ?_|intro _
   refine al_fnNF (by kernel_rfl) ?_
   repeat' first|refine Zz ?_|intro _
   refine reE ?_
   rfl
  ·rw [h,call11,do11 h]
   repeat' first|refine Zz ?_|intro _
   refine al_fnNF (by kernel_rfl) ?_
   repeat' first|refine Zz ?_|intro _
   refine reE ?_
   rfl
  ·rw [h,call12,do12 h]
   repeat' first|refine Zz ?_|intro _
   refine al_fnNF (by kernel_rfl) ?_
   repeat' first|refine Zz ?_|intro _
   refine reE ?_
   rfl
  ·rw [h,call13,do13 h]
   repeat' first|refine Zz ?_|intro _
   refine al_fnNF (by kernel_rfl) ?_
   repeat' first|refine Zz ?_|intro _
   refine reE ?_
   rfl
  ·rw [h,call14,do14 h]
   repeat' first|refine Zz ?_|intro _
   refine al_fnNF (by kernel_rfl) ?_
   repeat' first|refine Zz ?_|intro _
   refine reE ?_
   rfl
  ·rw [h,call15,do15 h]
   repeat' first|refine Zz ?_|intro _
   refine al_fnNF (by kernel_rfl) ?_
   repeat' first|refine Zz ?_|intro _
   refine reE ?_
   rfl
  ·rw [h,call16,do16 h]
   repeat' first|refine Zz ?_|intro _
   refine al_fnNF (by kernel_rfl) ?_
   repeat' first|refine Zz ?_|intro _
   refine reE ?_
   rfl⟩
end Go.Proofs.YtppngnhckahbnaaGreatDoor
