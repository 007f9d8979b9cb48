/- chapter 18's world, walked: names, headers, cuts, puts, what is known -/
import Derived.Test.YtlmcongmglfaeaaGreatDoorD29
import Derived.Test.YtlmcongmglfaeaaGreatDoorD30
import Derived.Test.YtlmcongmglfaeaaGreatDoorD31
import Derived.Test.YtlmcongmglfaeaaGreatDoorD32
import Derived.Test.YtlmcongmglfaeaaGreatDoorD38
import Derived.Test.YtlmcongmglfaeaaGreatDoorD39
import Derived.Test.YtlmcongmglfaeaaGreatDoorD41
namespace Go.Proofs.YtlmcongmglfaeaaGreatDoor
open Go Go.RowKit Tw Av
attribute [local irreducible] clB enB
def Eb (n:Int):Prop:=0<=n/\n < 256
theorem e0:Eb 0:=⟨by decide,by decide⟩
theorem e1:Eb 1:=⟨by decide,by decide⟩
theorem e11:Eb 11:=⟨by decide,by decide⟩
theorem e15:Eb 15:=⟨by decide,by decide⟩
theorem e16:Eb 16:=⟨by decide,by decide⟩
theorem e17:Eb 17:=⟨by decide,by decide⟩
theorem putR_b {d:List Ent}{k v:Bs}:Eb (putR d k v).2:=by
 unfold putR
 split
 ·first|exact e0|exact e1|exact e11|exact e15|exact e16|exact e17
 ·unfold putE
  split <;> (try split) <;> (try split) <;> first|exact e0|exact e1|exact e11|exact e15|exact e16|exact e17
theorem moreR_b {d:List Ent}{k:Bs}{n:Wd}:Eb (moreR k n d).2:=by
 unfold moreR
 split
 ·exact putR_b
 ·first|exact e0|exact e1|exact e11|exact e15|exact e16|exact e17
theorem lessR_b {d:List Ent}{k:Bs}{n:Wd}:Eb (lessR k n d).2:=by
 unfold lessR
 split
 ·first|exact e0|exact e1|exact e11|exact e15|exact e16|exact e17
 ·split
  ·first|exact e0|exact e1|exact e11|exact e15|exact e16|exact e17
  ·exact putR_b
theorem thenR_b {a b:List Ent->List Ent × Int}{d:List Ent}(ha:∀ d,Eb (a d).2)(hb:∀ d,Eb (b d).2):Eb (thenR a b d).2:=by
 unfold thenR
 split
 ·exact hb _
 ·exact ha _
theorem mintR_b {d:List Ent}{a c:Bs}{n:Wd}:Eb (mintR d a c n).2:=by
 unfold mintR
 split
 ·first|exact e0|exact e1|exact e11|exact e15|exact e16|exact e17
 ·split
  ·first|exact e0|exact e1|exact e11|exact e15|exact e16|exact e17
  ·exact thenR_b (fun _=>moreR_b) (fun _=>moreR_b)
theorem moveR_b {d:List Ent}{a b c:Bs}{n:Wd}:Eb (moveR d a b c n).2:=by
 unfold moveR
 split
 ·first|exact e0|exact e1|exact e11|exact e15|exact e16|exact e17
 ·split
  ·first|exact e0|exact e1|exact e11|exact e15|exact e16|exact e17
  ·exact thenR_b (fun _=>lessR_b) (fun _=>moreR_b)
theorem recvR_e {d:List Ent}{x:Pkt}:0<=(recvR d x).2/\(recvR d x).2 < 256:=by
 show Eb _
 unfold recvR
 split
 ·exact⟨by decide,by decide⟩
 ·split
  ·exact moveR_b
  ·exact mintR_b
set_option maxHeartbeats 4000000 in
instance fnLRecv {d:List Ent}{h t:Int}{x:TxX}{xs:List AV}[hx:Ents xs d]:Ans Tryz.prog GL 131 [.agg 3 [.agg 1 [.sl 2 xs none],int h,int t],txA x] (DOk d/\TxB x) (.tup [dA (rcvR d x h t).1,repA (rcvR d x h t).2]):=⟨fun hp=>by
 have hp':=hp
 obtain⟨hd,hb⟩:=hp
 have h':=hx.out
 subst h'
 have b1:=hb.d
 have b2:=hb.s
 have b3:=hb.k
 refine qE Tryz.func131 rfl Tryz.ntmps131 rfl (fun _ hs=>?_)
 repeat' first|refine Zz ?_|intro _
 unfold rcvR chkN
 cases h1:chkP x.x
 ·rw [if_pos rfl,if_neg (show ¬ false=true by decide),dT (show (1:Int)≠0 by decide)]
  repeat' first|refine Zz ?_|intro _
  refine reE ?_
  rfl
 rw [if_neg (show ¬ true=false by decide),if_pos rfl,dZ (show ¬ (0:Int)≠0 by decide)]
 obtain⟨q1,q2,q3,q4⟩:=nums_le h1
 repeat' first|refine Zz ?_|intro _
 rename_i g2 g3 g4 g5 g6
 refine al_makeFunc (vs:=[.pointer (some ⟨g6,0,none⟩)]) ?_
 refine al_callK (args:=[.agg 3 [dA d,int h,int t],str x.x.k,fnv 219 [.pointer (some ⟨g6,0,none⟩)]]) [.var g6 47 (pktA x.x)] _ (by rw [hs];exact chan_spec recv_asks (by simp [Value.oneCell']) hd) (fun u m' hh=>?_) lpr
 obtain⟨rfl,rfl⟩:=hh
 unfold chaT
 repeat' first|refine Zz ?_|intro _
 by_cases h2:chaE d x.x.k (fun c=>decide (c.p=x.x.s))=0
 rotate_left
 ·rw [if_pos h2,dT h2]
  repeat' first|refine Zz ?_|intro _
  refine reE ?_
  rfl
 rw [if_neg (nni h2),dZ (nni h2),dT h2,if_pos h2,Bool.true_and]
 repeat' first|refine Zz ?_|intro _
 cases h3:lateP x.x h t
 rotate_left
 ·rw [if_pos rfl]
  repeat' first|refine Zz ?_|intro _
  refine reE ?_
  rfl
 rw [if_neg (show ¬ false=true by decide)]
 repeat' first|refine Zz ?_|intro _
 cases h4:(gO d (kyW [71] x.x.k x.x.q)).isSome
 rotate_left
 ·rw [if_pos rfl]
  repeat' first|refine Zz ?_|intro _
  refine reE ?_
  rfl
 rw [if_neg (show ¬ false=true by decide)]
 repeat' first|refine Zz ?_|intro _
 cases h5:chaK d x.x.k
 ·rw [if_pos rfl]
  repeat' first|refine Zz ?_|intro _
  refine reE ?_
  rfl
 rw [if_neg (show ¬ true=false by decide)]
 repeat' first|refine Zz ?_|intro _
 by_cases h6:prE d (chaN d x.x.k) x.t t (kyW [80] x.x.s x.x.q) (comP x.x) x.f=0
 rotate_left
 ·rw [if_pos h6,dT h6]
  repeat' first|refine Zz ?_|intro _
  refine reE ?_
  rfl
 rw [if_neg (nni h6),dZ (nni h6)]
 have q5:DOk d/\x.x.s.length<=400000000/\x.x.d.length<=400000000/\x.x.k.length<=400000000:=⟨hd,b2,b1,b3⟩
 have q6:DOk (recvR d x.x).1:=recvR_dok hd
 have q7:=recvR_e (d:=d) (x:=x.x)
 unfold ackR
 repeat' first|refine Zz ?_|intro _
 by_cases h7:(recvR d x.x).2=0
 ·rw [if_pos h7,if_pos h7,dZ (nni h7)]
  repeat' first|refine Zz ?_|intro _
  refine reE ?_
  rfl
 ·rw [if_neg h7,if_neg h7,dT h7]
  have q9:(failB (recvR d x.x).2).length<=1000000000:=by
   unfold failB
   exact (by decide:2<=1000000000)
  repeat' first|refine Zz ?_|intro _
  refine reE ?_
  rfl⟩
end Go.Proofs.YtlmcongmglfaeaaGreatDoor

namespace Go.Proofs.YtlmcongmglfaeaaGreatDoor
open Go Go.RowKit Tw Av
attribute [local irreducible] clB enB
def Shows (f:FuncId)(cs:List Value)(m:List Av.Piece)(i k:Bs)(b:Bool)(e:Int):Prop:=Av.Spec Tryz.prog GL f (str i::str k::cs.map .lit) m fun u m'=>u=.tup [boo b,int e]/\m'=m
set_option maxHeartbeats 4000000 in
theorem ended_spec {f:FuncId}[FnB Tryz.prog f]{cs:List Value}{m:List Av.Piece}{d:List Ent}{h t:Int}{x:Pkt}{b:Bool}{e:Int}(ha:Shows f cs m (chaN d x.s) (kyW [71] x.k x.q) b e)(hc:∀ v ∈ cs,v.oneCell'=true)(hd:DOk d)(hk:chkP x=true)(hb1:x.s.length<=400000000)(hb2:x.d.length<=400000000) :
  Av.Spec Tryz.prog GL 227 [.agg 3 [dA d,int h,int t],pktA x,fnv f cs] m fun u m'=>u=.tup [dA (endR d x b e).1,repA (endR d x b e).2]/\m'=m:=by
 obtain⟨q1,q2,q3,q4⟩:=nums_le hk
 unfold endR
 refine qE Tryz.func227 rfl Tryz.ntmps227 rfl (fun _ hs=>?_)
 repeat' first|refine Zz ?_|intro _
 rename_i g1 g2 g3 g4
 refine al_makeFunc (vs:=[.pointer (some ⟨g2,0,none⟩)]) ?_
 refine al_callK (args:=[.agg 3 [dA d,int h,int t],str x.s,fnv 314 [.pointer (some ⟨g2,0,none⟩)]]) [.var g2 47 (pktA x)] (.var g4 59 (.agg 3 [.lit (.int .i64 0),.lit (.int .i64 0),str []])::.var g3 61 (.agg 1 [.lit (.slice none 0 0)])::.var g1 119 (.agg 3 [dA d,int h,int t])::m) (by rw [hs];exact chan_spec ended_asks (by simp [Value.oneCell']) hd) (fun u m' hh=>?_) (List.perm_middle (l₁:=[Av.Piece.var g4 59 (.agg 3 [.lit (.int .i64 0),.lit (.int .i64 0),str []]),Av.Piece.var g3 61 (.agg 1 [.lit (.slice none 0 0)])]) (l₂:=Av.Piece.var g1 119 (.agg 3 [dA d,int h,int t])::m))
 obtain⟨rfl,rfl⟩:=hh
 unfold chaT
 repeat' first|refine Zz ?_|intro _
 by_cases h2:chaE d x.s (fun c=>decide (c.p=x.k))=0
 rotate_left
 ·rw [if_pos h2,dT h2]
  repeat' first|refine Zz ?_|intro _
  refine reK m ⟨rfl,rfl⟩ ?_
  exact sbl
 rw [if_neg (nni h2),dZ (nni h2),dT h2,if_pos h2,Bool.true_and]
 repeat' first|refine Zz ?_|intro _
 cases hg:gO d (kyW [80] x.s x.q) with
 | none=>
  rw [if_pos (.inl (by simp))]
  repeat' first|refine Zz ?_|intro _
  refine reK m ⟨rfl,rfl⟩ ?_
  exact sbl
 | some v=>
 have hv:valE d (kyW [80] x.s x.q)=v:=by
  unfold valE
  rw [hg]
  rfl
 rw [hv]
 repeat' first|refine Zz ?_|intro _
 by_cases h3:v=comP x
 rotate_left
 ·rw [if_pos (.inl (fun e=>h3 (Option.some.inj e))),dT h3]
  repeat' first|refine Zz ?_|intro _
  refine reK m ⟨rfl,rfl⟩ ?_
  exact sbl
 rw [dZ (nni h3)]
 repeat' first|refine Zz ?_|intro _
 cases h4:chaK d x.s
 ·rw [if_pos (.inr rfl)]
  repeat' first|refine Zz ?_|intro _
  refine reK m ⟨rfl,rfl⟩ ?_
  exact sbl
 rw [if_neg (show ¬ (some v≠some (comP x)\/true=false) by rw [h3];simp)]
 repeat' first|refine Zz ?_|intro _
 rename_i g5
 refine al_callV (args:=[str (chaN d x.s),str (kyW [71] x.k x.q)]) (cs:=cs) m [Av.Piece.var g5 84 (endA (enR d [72] x.s)),.var g2 47 (pktA x),.var g4 59 (.agg 3 [.lit (.int .i64 0),.lit (.int .i64 0),str []]),.var g3 61 (.agg 1 [.lit (.slice none 0 0)]),.var g1 119 (.agg 3 [dA d,int h,int t])] (by rw [hs];exact ha) (fun u m' hh=>?_) (List.perm_append_comm (l₁:=[Av.Piece.var g5 84 (endA (enR d [72] x.s)),.var g2 47 (pktA x),.var g4 59 (.agg 3 [.lit (.int .i64 0),.lit (.int .i64 0),str []]),.var g3 61 (.agg 1 [.lit (.slice none 0 0)]),.var g1 119 (.agg 3 [dA d,int h,int t])]) (l₂:=m)) (hcs:=hc)
 obtain⟨rfl,rfl⟩:=hh
 refine al_st (fun ok w hS=>hS.perm (m':=[Av.Piece.var g5 84 (endA (enR d [72] x.s)),.var g2 47 (pktA x),.var g4 59 (.agg 3 [.lit (.int .i64 0),.lit (.int .i64 0),str []]),.var g3 61 (.agg 1 [.lit (.slice none 0 0)]),.var g1 119 (.agg 3 [dA d,int h,int t])]++m') List.perm_append_comm) ?_
 repeat' first|refine Zz ?_|intro _
 by_cases h5:e=0
 rotate_left
 ·rw [if_pos h5,dT h5]
  repeat' first|refine Zz ?_|intro _
  refine reK m' ⟨rfl,rfl⟩ ?_
  exact sbl
 rw [if_neg (nni h5),dZ (nni h5)]
 repeat' first|refine Zz ?_|intro _
 have q5:DOk d/\x.s.length<=1000000000/\x.d.length<=1000000000:=⟨hd,by omega,by omega⟩
 have q6:DOk (backR d x).1:=backR_dok hd
 cases b
 ·rw [if_neg (fun e=>by cases e.1),if_neg (show ¬ false=true by decide)]
  repeat' first|refine Zz ?_|intro _
  rw [dZ (nni h5)]
  repeat' first|refine Zz ?_|intro _
  refine reK m' ⟨rfl,rfl⟩ ?_
  exact sbl
 ·by_cases h6:(backR d x).2=0
  rotate_left
  ·rw [if_pos ⟨rfl,h6⟩]
   repeat' first|refine Zz ?_|intro _
   rw [dT h6]
   repeat' first|refine Zz ?_|intro _
   refine reK m' ⟨rfl,rfl⟩ ?_
   exact sbl
  rw [if_neg (fun e=>e.2 h6),if_pos rfl]
  repeat' first|refine Zz ?_|intro _
  rw [dZ (nni h6)]
  repeat' first|refine Zz ?_|intro _
  refine reK m' ⟨rfl,rfl⟩ ?_
  exact sbl
end Go.Proofs.YtlmcongmglfaeaaGreatDoor

namespace Go.Proofs.YtlmcongmglfaeaaGreatDoor
open Go Go.RowKit Tw Av
attribute [local irreducible] clB enB lateP
abbrev lA (d:List Ent)(h t:Int):AV:=.agg 3 [dA d,int h,int t]
set_option maxHeartbeats 1000000 in
theorem ack_shows {d:List Ent}{h t n:Int}{x:TxX}{i k:Bs}{g1 g2 g3:Nat}(hp:DOk d/\TxB x):Shows 228 [.pointer (some ⟨g3,0,none⟩),.pointer (some ⟨g1,0,none⟩),.pointer (some ⟨g2,0,none⟩)] [.var g3 57 (int n),.var g2 54 (txA x),.var g1 119 (lA d h t)] i k (decide (n≠0)) (prE d i x.t t k (rcpB x.a) x.f):=by
 have b1:=hp.2.a
 show Av.Spec _ _ _ [str i,str k,ptr g3,ptr g1,ptr g2] _ _
 refine qE Tryz.func228 rfl Tryz.ntmps228 rfl (fun _ hs=>?_)
 repeat' first|refine Zz ?_|intro _
 refine reK _ ⟨rfl,rfl⟩ ?_
 exact sbl
set_option maxHeartbeats 2000000 in
theorem tim_shows {d:List Ent}{h t:Int}{x:TxX}{g1 g2:Nat}(hp:DOk d/\TxB x):Shows 229 [.pointer (some ⟨g1,0,none⟩),.pointer (some ⟨g2,0,none⟩)] [.var g2 54 (txA x),.var g1 119 (lA d h t)] (chaN d x.x.s) (kyW [71] x.x.k x.x.q) true (timE d x t):=by
 obtain⟨hd,hb⟩:=hp
 have q1:DOk d/\x.g.a.m<=9223372036854775807/\x.g.b.m<=9223372036854775807:=⟨hd,hb.gm⟩
 show Av.Spec _ _ _ [str (chaN d x.x.s),str (kyW [71] x.x.k x.x.q),ptr g1,ptr g2] _ _
 unfold timE
 refine qE Tryz.func229 rfl Tryz.ntmps229 rfl (fun _ hs=>?_)
 repeat' first|refine Zz ?_|intro _
 by_cases h1:goE d (chaN d x.x.s) x.t t (kyW [71] x.x.k x.x.q) x.g=0
 rotate_left
 ·rw [if_neg (fun e=>h1 e.1),dZ h1]
  repeat' first|refine Zz ?_|intro _
  refine reK _ ⟨rfl,rfl⟩ ?_
  exact sbl
 rw [dT h1]
 repeat' first|refine Zz ?_|intro _
 cases h2:lateP x.x (goR d (chaN d x.x.s) x.t t (kyW [71] x.x.k x.x.q) x.g).h (goR d (chaN d x.x.s) x.t t (kyW [71] x.x.k x.x.q) x.g).t
 ·rw [if_pos ⟨h1,rfl⟩]
  repeat' first|refine Zz ?_|intro _
  refine reK _ ⟨rfl,rfl⟩ ?_
  exact sbl
 ·rw [if_neg (fun e=>by cases e.2)]
  repeat' first|refine Zz ?_|intro _
  refine reK _ ⟨rfl,rfl⟩ ?_
  exact sbl
set_option maxHeartbeats 2000000 in
instance fnLTimeout {d:List Ent}{h t:Int}{x:TxX}{xs:List AV}[hx:Ents xs d]:Ans Tryz.prog GL 133 [.agg 3 [.agg 1 [.sl 2 xs none],int h,int t],txA x] (DOk d/\TxB x) (.tup [dA (timR d x t).1,repA (timR d x t).2]):=⟨fun hp=>by
 have hp':=hp
 obtain⟨hd,hb⟩:=hp
 have h':=hx.out
 subst h'
 have b1:=hb.d
 have b2:=hb.s
 refine qE Tryz.func133 rfl Tryz.ntmps133 rfl (fun _ hs=>?_)
 repeat' first|refine Zz ?_|intro _
 rename_i g1 g2 g3 g4
 unfold timR chkN
 cases h1:chkP x.x
 ·rw [if_pos rfl,if_neg (show ¬ false=true by decide),dT (show (1:Int)≠0 by decide)]
  repeat' first|refine Zz ?_|intro _
  refine reE ?_
  rfl
 rw [if_neg (show ¬ true=false by decide),if_pos rfl,dZ (show ¬ (0:Int)≠0 by decide)]
 repeat' first|refine Zz ?_|intro _
 refine al_makeFunc (vs:=[.pointer (some ⟨g1,0,none⟩),.pointer (some ⟨g2,0,none⟩)]) ?_
 refine al_callK (args:=[lA d h t,pktA x.x,fnv 229 [.pointer (some ⟨g1,0,none⟩),.pointer (some ⟨g2,0,none⟩)]]) [.var g2 54 (txA x),.var g1 119 (lA d h t)] [Av.Piece.var g4 59 (.agg 3 [.lit (.int .i64 0),.lit (.int .i64 0),str []]),Av.Piece.var g3 61 (.agg 1 [.lit (.slice none 0 0)])] (by rw [hs];exact ended_spec (tim_shows hp') (by simp [Value.oneCell']) hd h1 b2 b1) (fun u m' hh=>?_) (List.perm_append_comm (l₁:=[Av.Piece.var g4 59 (.agg 3 [.lit (.int .i64 0),.lit (.int .i64 0),str []]),Av.Piece.var g3 61 (.agg 1 [.lit (.slice none 0 0)])]) (l₂:=[Av.Piece.var g2 54 (txA x),.var g1 119 (lA d h t)]))
 obtain⟨rfl,rfl⟩:=hh
 repeat' first|refine Zz ?_|intro _
 refine reE ?_
 rfl⟩
set_option maxHeartbeats 2000000 in
instance fnLAcks {d:List Ent}{h t:Int}{x:TxX}{xs:List AV}[hx:Ents xs d]:Ans Tryz.prog GL 132 [.agg 3 [.agg 1 [.sl 2 xs none],int h,int t],txA x] (DOk d/\TxB x) (.tup [dA (acksR d x t).1,repA (acksR d x t).2]):=⟨fun hp=>by
 have hp':=hp
 obtain⟨hd,hb⟩:=hp
 have h':=hx.out
 subst h'
 have b1:=hb.d
 have b2:=hb.s
 refine qE Tryz.func132 rfl Tryz.ntmps132 rfl (fun _ hs=>?_)
 repeat' first|refine Zz ?_|intro _
 rename_i g1 g2 g3 g4 g5
 unfold acksR chkN
 cases h1:chkP x.x
 ·rw [if_pos (.inl rfl),if_neg (show ¬ false=true by decide),dT (show (1:Int)≠0 by decide)]
  repeat' first|refine Zz ?_|intro _
  refine reE ?_
  rfl
 rw [if_pos rfl,dZ (show ¬ (0:Int)≠0 by decide)]
 cases h2:ackIs x.a
 ·rw [if_pos (.inr rfl)]
  repeat' first|refine Zz ?_|intro _
  refine reE ?_
  rfl
 rw [if_neg (show ¬ (true=false\/true=false) by decide)]
 repeat' first|refine Zz ?_|intro _
 refine al_makeFunc (vs:=[.pointer (some ⟨g5,0,none⟩),.pointer (some ⟨g1,0,none⟩),.pointer (some ⟨g2,0,none⟩)]) ?_
 refine al_callK (args:=[lA d h t,pktA x.x,fnv 228 [.pointer (some ⟨g5,0,none⟩),.pointer (some ⟨g1,0,none⟩),.pointer (some ⟨g2,0,none⟩)]]) [Av.Piece.var g5 57 (int (ackV x.a)),.var g2 54 (txA x),.var g1 119 (lA d h t)] [Av.Piece.var g4 59 (.agg 3 [.lit (.int .i64 0),.lit (.int .i64 0),str []]),Av.Piece.var g3 61 (.agg 1 [.lit (.slice none 0 0)])] (by rw [hs];exact ended_spec (ack_shows hp') (by simp [Value.oneCell']) hd h1 b2 b1) (fun u m' hh=>?_) (List.Perm.cons _ (List.perm_append_comm (l₁:=[Av.Piece.var g4 59 (.agg 3 [.lit (.int .i64 0),.lit (.int .i64 0),str []]),Av.Piece.var g3 61 (.agg 1 [.lit (.slice none 0 0)])]) (l₂:=[Av.Piece.var g2 54 (txA x),.var g1 119 (lA d h t)])))
 obtain⟨rfl,rfl⟩:=hh
 repeat' first|refine Zz ?_|intro _
 refine reE ?_
 rfl⟩
end Go.Proofs.YtlmcongmglfaeaaGreatDoor

namespace Go.Proofs.YtlmcongmglfaeaaGreatDoor
open Go Go.RowKit Tw Av
def callV (k:Int):AV:=
 if k=1 then fnv 122 [] else if k=2 then fnv 123 [] else if k=3 then fnv 124 [] else if k=4 then fnv 125 [] else if k=5 then fnv 126 [] else if k=6 then fnv 126 [] else if k=7 then fnv 127 [] else if k=8 then fnv 127 [] else if k=9 then fnv 128 [] else if k=10 then fnv 128 [] else if k=11 then fnv 129 [] else if k=12 then fnv 129 [] else if k=13 then fnv 130 [] else if k=14 then fnv 131 [] else if k=15 then fnv 132 [] else if k=16 then fnv 133 [] else .lit .nilFunc
theorem call1:callV 1=fnv 122 []:=rfl
theorem do1 {d:List Ent}{x:TxX}{h t:Int}(e:x.k=1):doR d x h t=fundR d x.x:=by
 unfold doR
 rw [e]
 rfl
theorem call2:callV 2=fnv 123 []:=rfl
theorem do2 {d:List Ent}{x:TxX}{h t:Int}(e:x.k=2):doR d x h t=movR d x.x:=by
 unfold doR
 rw [e]
 rfl
theorem call3:callV 3=fnv 124 []:=rfl
theorem do3 {d:List Ent}{x:TxX}{h t:Int}(e:x.k=3):doR d x h t=creR d x:=by
 unfold doR
 rw [e]
 rfl
theorem call4:callV 4=fnv 125 []:=rfl
theorem do4 {d:List Ent}{x:TxX}{h t:Int}(e:x.k=4):doR d x h t=updR d x t:=by
 unfold doR
 rw [e]
 rfl
theorem call5:callV 5=fnv 126 []:=rfl
theorem do5 {d:List Ent}{x:TxX}{h t:Int}(e:x.k=5):doR d x h t=conR d x t:=by
 unfold doR
 rw [e]
 rfl
theorem call6:callV 6=fnv 126 []:=rfl
theorem do6 {d:List Ent}{x:TxX}{h t:Int}(e:x.k=6):doR d x h t=conR d x t:=by
 unfold doR
 rw [e]
 rfl
theorem call7:callV 7=fnv 127 []:=rfl
theorem do7 {d:List Ent}{x:TxX}{h t:Int}(e:x.k=7):doR d x h t=codR d x t:=by
 unfold doR
 rw [e]
 rfl
theorem call8:callV 8=fnv 127 []:=rfl
theorem do8 {d:List Ent}{x:TxX}{h t:Int}(e:x.k=8):doR d x h t=codR d x t:=by
 unfold doR
 rw [e]
 rfl
theorem call9:callV 9=fnv 128 []:=rfl
theorem do9 {d:List Ent}{x:TxX}{h t:Int}(e:x.k=9):doR d x h t=opnR d x t:=by
 unfold doR
 rw [e]
 rfl
theorem call10:callV 10=fnv 128 []:=rfl
theorem do10 {d:List Ent}{x:TxX}{h t:Int}(e:x.k=10):doR d x h t=opnR d x t:=by
 unfold doR
 rw [e]
 rfl
theorem call11:callV 11=fnv 129 []:=rfl
theorem do11 {d:List Ent}{x:TxX}{h t:Int}(e:x.k=11):doR d x h t=opdR d x t:=by
 unfold doR
 rw [e]
 rfl
theorem call12:callV 12=fnv 129 []:=rfl
theorem do12 {d:List Ent}{x:TxX}{h t:Int}(e:x.k=12):doR d x h t=opdR d x t:=by
 unfold doR
 rw [e]
 rfl
theorem call13:callV 13=fnv 130 []:=rfl
theorem do13 {d:List Ent}{x:TxX}{h t:Int}(e:x.k=13):doR d x h t=sndR d x.x:=by
 unfold doR
 rw [e]
 rfl
theorem call14:callV 14=fnv 131 []:=rfl
theorem do14 {d:List Ent}{x:TxX}{h t:Int}(e:x.k=14):doR d x h t=rcvR d x h t:=by
 unfold doR
 rw [e]
 rfl
theorem call15:callV 15=fnv 132 []:=rfl
theorem do15 {d:List Ent}{x:TxX}{h t:Int}(e:x.k=15):doR d x h t=acksR d x t:=by
 unfold doR
 rw [e]
 rfl
theorem call16:callV 16=fnv 133 []:=rfl
theorem do16 {d:List Ent}{x:TxX}{h t:Int}(e:x.k=16):doR d x h t=timR d x t:=by
 unfold doR
 rw [e]
 rfl
theorem callN {k:Int}(h:¬ (1<=k/\k<=16)):callV k=.lit .nilFunc:=by
 unfold callV
 repeat rw [if_neg (by omega)]
theorem doN {d:List Ent}{x:TxX}{h t:Int}(e:¬ (1<=x.k/\x.k<=16)):doR d x h t=failR d 1:=by
 unfold doR
 repeat rw [if_neg (by omega)]
attribute [local irreducible] clB enB lateP fundR movR creR updR conR codR opnR opdR sndR rcvR acksR timR callV doR
section
variable {P:Program} {N:Nat} {ops:Array Oper} {Q:Exit->Act->World->Prop} {rest:List Oper} {s:Av.Base} {e:Av.Env} {m:List Av.Piece} {d:Nat} {ty:TypeId} {pos:String} {af:Array Edge}
def isFn:Option TypeDesc->Bool
 | some (.func _ _ _)=>true
 | _=>false
theorem isFn_out {o:Option TypeDesc}(h:isFn o=true):∃ A B C,o=some (.func A B C):=by
 unfold isFn at h
 split at h
 ·exact⟨_,_,_,rfl⟩
 ·cases h
theorem al_fnNT {op:BinOp}{T yT:TypeId}(hT:isFn (P.underlying T)=true){x y:Operand}{c:Bool}(h:AL P N ops Q s rest ((d,boo c)::e) m)(hx:Av.ev e x=some (.lit .nilFunc):=by exact rfl)(hy:Av.ev e y=some (.lit .nilFunc):=by exact rfl)(hc:eqs op true=some c:=by exact rfl)(hd:Nat.blt d N=true:=by exact rfl):AL P N ops Q s (⟨some d,.binOp op T x y yT,ty,pos,af,none⟩::rest) e m:=
 al_lit rfl (fun ok w A hA=>by
  obtain⟨_,_,_,ht⟩:=isFn_out hT
  exact run_eqs (hA.lit hx) (hA.lit hy) (by simp) (by simp) (by simp) (by simp) (by unfold eqGuard;cases op <;> rfl) (by
  have h:∀ d:Nat,(Op.equalIn (d + 1) T .nilFunc .nilFunc).run P w=.ok true w:=fun d=>by simp [Op.equalIn,run_underlying ht]
  exact h 9999) hc) hd h
theorem al_fnNF {op:BinOp}{T yT:TypeId}(hT:isFn (P.underlying T)=true){x y:Operand}{f:FuncId}{cs:List Value}{c:Bool}(h:AL P N ops Q s rest ((d,boo c)::e) m)(hx:Av.ev e x=some (fnv f cs):=by exact rfl)(hy:Av.ev e y=some (.lit .nilFunc):=by exact rfl)(hc:eqs op false=some c:=by exact rfl)(hd:Nat.blt d N=true:=by exact rfl):AL P N ops Q s (⟨some d,.binOp op T x y yT,ty,pos,af,none⟩::rest) e m:=
 al_lit rfl (fun ok w A hA=>by
  obtain⟨_,_,_,ht⟩:=isFn_out hT
  exact run_eqs (hA.lit hx) (hA.lit hy) (by simp) (by simp) (by simp) (by simp) (by unfold eqGuard;cases op <;> rfl) (by
  have h:∀ d:Nat,(Op.equalIn (d + 1) T (.func (.func f) #[] cs.toArray) .nilFunc).run P w=.ok false w:=fun d=>by simp [Op.equalIn,run_underlying ht]
  exact h 9999) hc) hd h
end
theorem kinds {k:Int}(h:1<=k/\k<=16):k=1\/k=2\/k=3\/k=4\/k=5\/k=6\/k=7\/k=8\/k=9\/k=10\/k=11\/k=12\/k=13\/k=14\/k=15\/k=16:=by omega
set_option maxHeartbeats 2000000 in
instance fnCoCall {k:Int}:Ans Tryz.prog GL 48 [int k] True (callV k):=⟨fun _=>by
 refine qE Tryz.func48 rfl Tryz.ntmps48 rfl (fun _ hs=>?_)
 by_cases h:1<=k/\k<=16
 ·rcases kinds h with rfl|rfl|rfl|rfl|rfl|rfl|rfl|rfl|rfl|rfl|rfl|rfl|rfl|rfl|rfl|rfl
  all_goals
   repeat' first|refine Zz ?_|intro _
   refine reE ?_
   first|exact call1.symm|exact call2.symm|exact call3.symm|exact call4.symm|exact call5.symm|exact call6.symm|exact call7.symm|exact call8.symm|exact call9.symm|exact call10.symm|exact call11.symm|exact call12.symm|exact call13.symm|exact call14.symm|exact call15.symm|exact call16.symm
 ·repeat' first|refine Zz ?_|intro _
  refine reE ?_
  exact (callN h).symm⟩
set_option maxHeartbeats 4000000 in
instance fnCoDo {d:List Ent}{h t:Int}{x:TxX}{xs:List AV}[hx:Ents xs d]:Ans Tryz.prog GL 10 [.agg 1 [.sl 2 xs none],txA x,int h,int t] (DOk d/\TxB x) (.tup [dA (doR d x h t).1,repA (doR d x h t).2]):=⟨fun hp=>by
 have h':=hx.out
 subst h'
 refine qE Tryz.func10 rfl Tryz.ntmps10 rfl (fun _ hs=>?_)
 repeat' first|refine Zz ?_|intro _
 by_cases hk:1<=x.k/\x.k<=16
 rotate_left
 ·rw [callN hk,doN hk]
  repeat' first|refine Zz ?_|intro _
  refine al_fnNT (by kernel_rfl) ?_
  repeat' first|refine Zz ?_|intro _
  refine reE ?_
  rfl
 ·rcases kinds hk with h|h|h|h|h|h|h|h|h|h|h|h|h|h|h|h
  ·rw [h,call1,do1 h]
   repeat' first|refine Zz ?_|intro _
   refine al_fnNF (by kernel_rfl) ?_
   repeat' first|refine Zz ?_|intro _
   refine reE ?_
   rfl
  ·rw [h,call2,do2 h]
   repeat' first|refine Zz ?_|intro _
   refine al_fnNF (by kernel_rfl) ?_
   repeat' first|refine Zz ?_|intro _
   refine reE ?_
   rfl
  ·rw [h,call3,do3 h]
   repeat' first|refine Zz ?_|intro _
   refine al_fnNF (by kernel_rfl) ?_
   repeat' first|refine Zz ?_|intro _
   refine reE ?_
   rfl
  ·rw [h,call4,do4 h]
   repeat' first|refine Zz ?_|intro _
   refine al_fnNF (by kernel_rfl) ?_
   repeat' first|refine Zz ?_|intro _
   refine reE ?_
   rfl
  ·rw [h,call5,do5 h]
   repeat' first|refine Zz ?_|intro _
   refine al_fnNF (by kernel_rfl) ?_
   repeat' first|refine Zz ?_|intro _
   refine reE ?_
   rfl
  ·rw [h,call6,do6 h]
   repeat' first|refine Zz ?_|intro _
   refine al_fnNF (by kernel_rfl) ?_
   repeat' first|refine Zz ?_|intro _
   refine reE ?_
   rfl
  ·rw [h,call7,do7 h]
   repeat' first|refine Zz ?_|intro _
   refine al_fnNF (by kernel_rfl) ?_
   repeat' first|refine Zz ?_|intro _
   refine reE ?_
   rfl
  ·rw [h,call8,do8 h]
   repeat' first|refine Zz ?_|intro _
   refine al_fnNF (by kernel_rfl) ?_
   repeat' first|refine Zz ?_|intro _
   refine reE ?_
   rfl
  ·rw [h,call9,do9 h]
   repeat' first|refine Zz ?_|intro _
   refine al_fnNF (by kernel_rfl) ?_
   repeat' first|refine Zz ?_|intro _
   refine reE ?_
   rfl
  ·rw [h,call10,do10 h]
   repeat' first|refine Zz ?_|intro _
   refine al_fnNF (by kernel_rfl) ?_
   repeat' first|refine Zz ?_|intro _
   refine reE ?_
   rfl
  ·rw [h,call11,do11 h]
   repeat' first|refine Zz ?_|intro _
   refine al_fnNF (by kernel_rfl) ?_
   repeat' first|refine Zz ?_|intro _
   refine reE ?_
   rfl
  ·rw [h,call12,do12 h]
   repeat' first|refine Zz ?_|intro _
   refine al_fnNF (by kernel_rfl) ?_
   repeat' first|refine Zz ?_|intro _
   refine reE ?_
   rfl
  ·rw [h,call13,do13 h]
   repeat' first|refine Zz ?_|intro _
   refine al_fnNF (by kernel_rfl) ?_
   repeat' first|refine Zz ?_|intro _
   refine reE ?_
   rfl
  ·rw [h,call14,do14 h]
   repeat' first|refine Zz ?_|intro _
   refine al_fnNF (by kernel_rfl) ?_
   repeat' first|refine Zz ?_|intro _
   refine reE ?_
   rfl
  ·rw [h,call15,do15 h]
   repeat' first|refine Zz ?_|intro _
   refine al_fnNF (by kernel_rfl) ?_
   repeat' first|refine Zz ?_|intro _
   refine reE ?_
   rfl
  ·rw [h,call16,do16 h]
   repeat' first|refine Zz ?_|intro _
   refine al_fnNF (by kernel_rfl) ?_
   repeat' first|refine Zz ?_|intro _
   refine reE ?_
   rfl⟩
end Go.Proofs.YtlmcongmglfaeaaGreatDoor

namespace Go.Proofs.YtlmcongmglfaeaaGreatDoor
open Go Go.RowKit Tw Av
theorem tellR_dok {d:List Ent}{r:List Ent × Int}{p:Rep}(h:DOk d)(hr:DOk r.1):DOk (tellR d r p).1:=by
 unfold tellR failR
 split
 ·exact hr
 ·exact h
theorem putsR_dok {d:List Ent}{k v:Bs}(h:DOk d):DOk (putsR d k v).1:=tellR_dok h (putR_dok h)
theorem begR_dok {d:List Ent}{x:TxX}{i k:Bs}{b:Bool}{t:Int}(h:DOk d):DOk (begR d x i k b t).1:=by
 unfold begR
 repeat' (first|exact h|exact putsR_dok h|split)
theorem joiR_dok {d:List Ent}{x:TxX}{own:EndX}{i k:Bs}{b:Bool}{t:Int}(h:DOk d):DOk (joiR d x own i k b t).1:=by
 cases b
 ·rw [joi_f]
  unfold joiQ
  split
  ·exact h
  ·split
   ·exact h
   ·exact putsR_dok h
 ·rw [joi_t]
  unfold joiQ
  split
  ·exact h
  ·split
   ·exact h
   ·exact putsR_dok h
theorem endR_dok {d:List Ent}{x:Pkt}{b:Bool}{e:Int}(h:DOk d):DOk (endR d x b e).1:=by
 unfold endR
 split
 ·exact h
 split
 ·exact h
 split
 ·exact h
 split
 ·exact h
 refine DOk.drp ?_ _
 split
 ·exact backR_dok h
 ·exact h
section
variable {d:List Ent} {x:TxX} {h t:Int} (hd:DOk d)
include hd
theorem fundR_dok:DOk (fundR d x.x).1:=by
 unfold fundR
 split
 ·exact hd
 ·exact tellR_dok hd (mintR_dok hd)
theorem movR_dok:DOk (movR d x.x).1:=by
 unfold movR
 split
 ·exact hd
 ·exact tellR_dok hd (moveR_dok hd)
theorem creR_dok:DOk (creR d x).1:=by
 unfold creR
 split
 ·exact hd
 ·split
  ·exact hd
  ·split
   ·exact hd
   ·exact putsR_dok hd
theorem updR_dok:DOk (updR d x t).1:=by
 unfold updR
 split
 ·exact hd
 ·split
  ·exact hd
  ·exact putsR_dok hd
theorem conR_dok:DOk (conR d x t).1:=by
 unfold conR
 split
 ·exact hd
 ·split
  ·exact hd
  ·split
   ·exact hd
   ·exact begR_dok hd
theorem codR_dok:DOk (codR d x t).1:=by
 unfold codR
 split
 ·exact hd
 ·exact joiR_dok hd
theorem opnR_dok:DOk (opnR d x t).1:=by
 unfold opnR
 split
 ·exact hd
 ·split
  ·exact hd
  ·split
   ·exact hd
   ·split
    ·exact hd
    ·exact begR_dok hd
theorem opdR_dok:DOk (opdR d x t).1:=by
 unfold opdR
 split
 ·exact hd
 ·exact joiR_dok hd
theorem sndR_dok:DOk (sndR d x.x).1:=by
 unfold sndR
 split
 ·exact hd
 ·split
  ·exact hd
  ·split
   ·exact hd
   ·split
    ·exact hd
    ·exact tellR_dok hd (thenR_dok hd (fun d h=>sendR_dok h) (fun d h=>thenR_dok h (fun d h=>putR_dok h) (fun d h=>putR_dok h)))
theorem rcvR_dok:DOk (rcvR d x h t).1:=by
 have h1:DOk (if (recvR d x.x).2=0 then (recvR d x.x).1 else d):=by
  split
  ·exact recvR_dok hd
  ·exact hd
 unfold rcvR
 generalize (if (recvR d x.x).2=0 then (recvR d x.x).1 else d)=D at *
 split
 ·exact hd
 split
 ·exact hd
 split
 ·exact hd
 split
 ·exact hd
 split
 ·exact hd
 split
 ·exact hd
 exact tellR_dok hd (putR_dok h1)
theorem acksR_dok:DOk (acksR d x t).1:=by
 unfold acksR
 split
 ·exact hd
 ·exact endR_dok hd
theorem timR_dok:DOk (timR d x t).1:=by
 unfold timR
 split
 ·exact hd
 ·exact endR_dok hd
theorem doR_dok:DOk (doR d x h t).1:=by
 by_cases hk:1<=x.k/\x.k<=16
 rotate_left
 ·rw [doN hk]
  exact hd
 rcases kinds hk with e|e|e|e|e|e|e|e|e|e|e|e|e|e|e|e
 ·rw [do1 e]
  exact fundR_dok hd
 ·rw [do2 e]
  exact movR_dok hd
 ·rw [do3 e]
  exact creR_dok hd
 ·rw [do4 e]
  exact updR_dok hd
 ·rw [do5 e]
  exact conR_dok hd
 ·rw [do6 e]
  exact conR_dok hd
 ·rw [do7 e]
  exact codR_dok hd
 ·rw [do8 e]
  exact codR_dok hd
 ·rw [do9 e]
  exact opnR_dok hd
 ·rw [do10 e]
  exact opnR_dok hd
 ·rw [do11 e]
  exact opdR_dok hd
 ·rw [do12 e]
  exact opdR_dok hd
 ·rw [do13 e]
  exact sndR_dok hd
 ·rw [do14 e]
  exact rcvR_dok hd
 ·rw [do15 e]
  exact acksR_dok hd
 ·rw [do16 e]
  exact timR_dok hd
end

structure SideX where
 n:Bs
 d:List Ent
 h:Int
 t:Int
 p:List (List Ent)
 ts:List Int
 s:List Pkt
 g:List Pkt
 a:List Bs
def nmK (i:Bool):Bs:=if i=true then [107,98] else [107,97]
def nmN (i:Bool):Bs:=if i=true then [110,98] else [110,97]
def nmH (i:Bool):Bs:=if i=true then [99,98] else [99,97]
def rootD (d:List Ent):Hsh:=topH d.length (treeH (d.map leafH))
def hdrX (y:SideX)(h:Int):Hdr:=⟨y.n,h,y.ts.getD (h - 1).toNat 0,rootD (y.p.getD (h - 1).toNat [])⟩
def cutX (x:SideX)(t:Int):SideX:={ x with h:=x.h + 1,t:=max x.t t,p:=x.p++[x.d],ts:=x.ts++[max x.t t] }
def putX (x:SideX)(k v:Bs):SideX:=if (putR x.d k v).2=0 then { x with d:=(putR x.d k v).1 } else x
def knX (x:SideX)(i:Bool):Int:=(latC (clR x.d (nmK i)).l).h
def pastX (y:SideX)(k:Int):List Ent:=if 1<=k/\k<=y.p.length then y.p.getD (k - 1).toNat [] else []
def memK (d:List Ent)(k:Bs):Prf:=memP d (fndAt d k) (fndIs d k)
def absK (d:List Ent)(k:Bs):Gp:=absG d (fndAt d k) (fndIs d k)
def txK (n k:Int):TxX:=⟨n,[],[],[],[],[],0,zeroHd,zeroH,zeroPk,[],k,zeroP,zeroG⟩
def hanX (i:Bool)(n k:Int)(past:List Ent):TxX:=
 if 6 < n then ⟨n + 3,nmH i,nmN i,nmH (!i),nmN (!i),[],0,zeroHd,zeroH,zeroPk,[],k,memK past (kyO [72] (nmH (!i))),zeroG⟩
 else ⟨n + 3,nmN i,nmK i,nmN (!i),nmK (!i),[],0,zeroHd,zeroH,zeroPk,[],k,memK past (kyO [75] (nmN (!i))),zeroG⟩
def pickI (n many:Int):Int:=((n.tmod many) + many).tmod many
def atPk (l:List Pkt)(n:Int):Pkt:=l.getD (pickI n l.length).toNat zeroPk
def ackTo (g:List Pkt)(a:List Bs)(p:Pkt):Nat->Bs
 | 0=>[43]
 | n + 1=>if g.getD n zeroPk=p then a.getD n [] else ackTo g a p n
def recX (y:SideX)(n k:Int)(past:List Ent):TxX:=
 if y.s=[] then txK 14 k else { txK 14 k with x:=atPk y.s n,f:=memK past (kyW [80] (atPk y.s n).s (atPk y.s n).q) }
def ackX (x y:SideX)(n k:Int)(past:List Ent):TxX:=
 if x.s=[] then txK 15 k else { txK 15 k with x:=atPk x.s n,a:=ackTo y.g y.a (atPk x.s n) y.g.length,f:=memK past (kyW [71] (atPk x.s n).k (atPk x.s n).q) }
def timX (x:SideX)(n k:Int)(past:List Ent):TxX:=
 if x.s=[] then txK 16 k else { txK 16 k with x:=atPk x.s n,g:=absK past (kyW [71] (atPk x.s n).k (atPk x.s n).q) }
def inc0 (a:Wd):Wd:=wOf (wj ((lm a.n 0 + 1) % 18446744073709551616) (lm a.n 1) (lm a.n 2) (lm a.n 3))
theorem hx0_len (h:Hsh):((h.l.set 0 (h.l.getD 0 0 ^^^ 1))).length=32:=by rw [List.length_set,h.len]
def hx0 (h:Hsh):Hsh:=⟨h.l.set 0 (h.l.getD 0 0 ^^^ 1),hx0_len h⟩
def spoX (n:Int)(x:TxX):TxX:=
 if n=1 then { x with t:=x.t + 1 } else if n=2 then { x with x:={ x.x with a:=inc0 x.x.a } } else if n=3 then { x with f:={ x.f with a:=x.f.a + 1 } }
 else if n=4 then { x with m:=hx0 x.m } else if n=5 then { x with a:=failB 16 } else if n=6 then { x with p:=[122,122] } else x
structure StpX where
 i:Int
 k:Int
 n:Int
 a:Int
 t:Int
 s:Int
def sndX (i b:Bool)(k t a lt:Int):TxX:=
 { txK 13 k with x:=⟨0,nmH i,[],if b=true then nmH i++[47,120] else [120],wOf (1 + a).toNat,if b=true then [99,97,116] else [97,110,110],if b=true then [100,97,110] else [99,97,116],k + 2 + t % 4,if b=true then lt + 1 + t % 8 else 0⟩ }
def txN (i:Bool)(x y:SideX)(n:Int)(s:StpX):TxX:=
 if n=1 then { txK 4 (knX x i) with i:=nmK i,h:=hdrX y y.h,m:=sealOf ([107,101,121]++y.n) (hdrX y y.h) }
 else if n=2 then { txK 5 (knX x i) with i:=nmN i,o:=nmK i,q:=nmK (!i) }
 else if n=6 then { txK 9 (knX x i) with i:=nmH i,o:=nmN i,q:=nmN (!i) }
 else if 3<=n/\n<=9 then hanX i n (knX x i) (pastX y (knX x i))
 else if n=10 then sndX i false (knX x i) s.t (s.a % 8) y.t
 else if n=11 then sndX i true (knX x i) s.t (s.a % 8) y.t
 else if n=12 then recX y s.n (knX x i) (pastX y (knX x i))
 else if n=13 then ackX x y s.n (knX x i) (pastX y (knX x i))
 else if n=14 then timX x s.n (knX x i) (pastX y (knX x i))
 else if n=15 then { txK (1 + s.n % 2) (knX x i) with x:=⟨0,[],[],[120],wOf (s.a % 8).toNat,[97,110,110],[99,97,116],0,0⟩ }
 else txK 0 (knX x i)
def txX (i:Bool)(x y:SideX)(s:StpX):TxX:=spoX (s.s % 16) (txN i x y (s.k % 16) s)
def sentX (d:List Ent)(x:Pkt)(r:Rep):Pkt:={ x with q:=r.q,k:=(enR d [72] x.s).p }
def aftX (x:SideX)(t:Int)(z:TxX)(d:List Ent)(r:Rep):SideX:=
 if z.k=0 then cutX x (x.t + t % 4)
 else if r.e≠0 then x
 else if z.k=13 then { x with d:=d,s:=x.s++[sentX d z.x r] }
 else if z.k=14 then { x with d:=d,g:=x.g++[z.x],a:=x.a++[r.a] }
 else { x with d:=d }
def minD:List Ent:=(mintR (mintR [] [97,110,110] [120] (wOf 50)).1 [98,111,98] [121] (wOf 9)).1
def cutS (i:Bool):SideX:=cutX ⟨if i=true then [98] else [97],minD,0,0,[],[],[],[],[]⟩ 1
def clS (i:Bool):Cli:=newR ([107,101,121]++(cutS (!i)).n) 1000 (hdrX (cutS (!i)) 1)
def freS (i:Bool):SideX:=putX (cutS i) (kyO [67] (nmK i)) (cliB (clS i))
def conE (i:Bool):EndX:=⟨3,nmK i,nmK (!i),nmN (!i)⟩
def chaX (i:Bool):EndX:=⟨3,nmN i,nmN (!i),nmH (!i)⟩
def opeS (i:Bool):SideX:=putX (putX (freS i) (kyO [75] (nmN i)) (enxB (conE i))) (kyO [72] (nmH i)) (enxB (chaX i))
structure PkB (p:Pkt):Prop where
 s:p.s.length<=400000000
 k:p.k.length<=400000000
 d:p.d.length<=400000000
 f:p.f.length<=400000000
 g:p.g.length<=400000000
 q:p.q<=9223372036854775807
 h:p.h<=9223372036854775807
 t:p.t<=9223372036854775807
structure SOk (N:Nat)(x:SideX):Prop where
 n:x.n.length=1
 d:DOk x.d
 h:x.h=x.p.length
 h1:1<=x.p.length
 hN:x.p.length<=1 + N
 t:0<=x.t/\x.t<=1 + 3 * N
 p:∀ q ∈ x.p,DOk q
 tl:x.ts.length=x.p.length
 ts:∀ t ∈ x.ts,0<=t/\t<=1 + 3 * N
 s:∀ p ∈ x.s,PkB p
 sl:x.s.length<=N
 g:∀ p ∈ x.g,PkB p
 gl:x.g.length<=N
 a:∀ p ∈ x.a,p.length<=400000000
 al:x.a.length=x.g.length

structure IdS where
 p:Value
 t:Value
 s:Value
 g:Value
 a:Value
abbrev nmA (i:Bool):AV:=.agg 3 [str (nmK i),str (nmN i),str (nmH i)]
abbrev sdA (x:SideX)(I:IdS):AV:=.agg 9 [str x.n,.sl 2 (x.d.map entA) none,int x.h,int x.t,.sl 1 (x.p.map dSl) (some I.p),.sl 1 (x.ts.map fun t:Int=>int t) (some I.t),.sl 12 (x.s.map pktA) (some I.s),.sl 12 (x.g.map pktA) (some I.g),.sl 1 (x.a.map str) (some I.a)]
abbrev wdA (a b:SideX)(I J:IdS):AV:=.agg 18 [.agg 18 [sdA a I,sdA b J]]
abbrev stpA (s:StpX):AV:=.agg 6 [int s.i,int s.k,int s.n,int s.a,int s.t,int s.s]
abbrev tlS (I:IdS):List Av.Piece:=[.tail 24 1 I.p,.tail 3 1 I.t,.tail 47 12 I.s,.tail 47 12 I.g,.tail 9 1 I.a]
instance fnWNames0:Ans Tryz.prog GL 17 [int 0] True (nmA false):=⟨fun _=>by
 refine qE Tryz.func17 rfl Tryz.ntmps17 rfl (fun _ hs=>?_)
 repeat' first|refine Zz ?_|intro _
 refine reE ?_
 rfl⟩
instance fnWNames1:Ans Tryz.prog GL 17 [int 1] True (nmA true):=⟨fun _=>by
 refine qE Tryz.func17 rfl Tryz.ntmps17 rfl (fun _ hs=>?_)
 repeat' first|refine Zz ?_|intro _
 refine reE ?_
 rfl⟩
theorem pick_lt (n:Int){m:Int}(h:1<=m):0<=pickI n m/\pickI n m < m:=by
 unfold pickI
 have h1:=Int.lt_tmod_of_pos n (b:=m) (by omega)
 have h2:0<=n.tmod m + m:=by omega
 exact⟨Int.tmod_nonneg _ h2,Int.tmod_lt_of_pos _ (by omega)⟩
instance fnWPick {n m:Int}:Ans Tryz.prog GL 18 [int n,int m] (1<=m/\m<=1000000) (int (pickI n m)):=⟨fun hp=>by
 obtain⟨h1,h2⟩:=hp
 have h3:=Int.lt_tmod_of_pos n (b:=m) (by omega)
 have h4:=Int.tmod_lt_of_pos n (b:=m) (by omega)
 refine qE Tryz.func18 rfl Tryz.ntmps18 rfl (fun _ hs=>?_)
 repeat' first|refine Zz ?_|intro _
 refine al_tmod ?_
 repeat' first|refine Zz ?_|intro _
 have hq:0<=n.tmod m + m:=by omega
 refine reE ?_
 show int ((n.tmod m + m) % m)=int (pickI n m)
 unfold pickI
 rw [Int.tmod_eq_emod_of_nonneg hq]⟩
theorem rootD_eq (d:List Ent):rootD d=topH d.length (treeH (d.map leafH)):=rfl
attribute [local irreducible] rootD
instance fnWHeader {x:SideX}{I:IdS}{h:Int}:Ans Tryz.prog GL 43 [sdA x I,int h] ((1<=h/\h<=x.p.length)/\(x.p.length<=1000000/\x.ts.length=x.p.length)/\∀ q ∈ x.p,q.length<=1000000) (hdrA (hdrX x h)):=⟨fun hp=>by
 obtain⟨⟨h1,h2⟩,⟨h6,h3⟩,h4⟩:=hp
 obtain⟨i,hi⟩:∃ i:Nat,h - 1=(i:Int):=⟨(h - 1).toNat,by omega⟩
 have hi1:i < x.p.length:=by omega
 have hi2:i < x.ts.length:=by omega
 have h5:=h4 _ (List.getElem_mem hi1)
 have e:hdrX x h=⟨x.n,h,x.ts[i],rootD x.p[i]⟩:=by
  unfold hdrX
  rw [hi]
  simp [List.getD,hi1,hi2]
 rw [e]
 refine qE Tryz.func43 rfl Tryz.ntmps43 rfl (fun _ hs=>?_)
 repeat' first|refine Zz ?_|intro _
 apply obl_read [];exact rfl;exact rfl;kernel_rfl;intro _ _
 refine al_idxM (l:=x.ts) (f:=fun t:Int=>int t) i hi2 ?_
 exact al_nil (ae_got rfl rfl)
 repeat' first|refine Zz ?_|intro _
 apply obl_read [];exact rfl;exact rfl;kernel_rfl;intro _ _
 refine al_idxM (l:=x.p) (f:=dSl) i hi1 ?_
 exact al_nil (ae_got rfl rfl)
 repeat' first|refine Zz ?_|intro _
 refine reE ?_
 rw [rootD_eq]
 rfl⟩
instance fnWPut {x:SideX}{I:IdS}{k v:Bs}:Ans Tryz.prog GL 72 [sdA x I,str k,str v] (DOk x.d) (sdA (putX x k v) I):=⟨fun hd=>by
 refine qE Tryz.func72 rfl Tryz.ntmps72 rfl (fun _ hs=>?_)
 repeat' first|refine Zz ?_|intro _
 unfold putX
 by_cases h:(putR x.d k v).2=0
 ·rw [if_pos h]
  repeat' first|refine Zz ?_|intro _
  refine reE ?_
  rfl
 ·rw [if_neg h]
  repeat' first|refine Zz ?_|intro _
  refine reE ?_
  rfl⟩
theorem fnWCut {x:SideX}{I:IdS}{t:Int}(h1:0<=x.h/\x.h<=1000000)(h2:x.p.length<=1000000)(h3:x.ts.length<=1000000):Av.Spec Tryz.prog GL 53 [sdA x I,int t] (tlS I) fun u m=>∃ vp vt,u=sdA (cutX x t) { I with p:=vp,t:=vt }/\m=tlS { I with p:=vp,t:=vt }:=by
 have hm1:(x.p.map dSl).length=x.p.length:=llm _
 have hm2:(x.ts.map fun t:Int=>int t).length=x.ts.length:=llm _
 refine qE Tryz.func53 rfl Tryz.ntmps53 rfl (fun _ hs=>?_)
 by_cases hc:x.t < t
 ·have hx:max x.t t=t:=by omega
  have e:cutX x t=⟨x.n,x.d,x.h + 1,t,x.p++[x.d],x.ts++[t],x.s,x.g,x.a⟩:=by unfold cutX;rw [hx]
  rw [e]
  repeat' first|refine Zz ?_|intro _
  refine al_append (fun vp=>?_)
  repeat' first|refine Zz ?_|intro _
  refine al_append (fun vt=>?_)
  repeat' first|refine Zz ?_|intro _
  refine reK (tlS { I with p:=vp,t:=vt }) ⟨vp,vt,?_,rfl⟩ ?_
  ·show AV.agg 9 _=AV.agg 9 _
   rw [List.map_append,List.map_append]
   rfl
  ·exact sbl
 ·have hx:max x.t t=x.t:=by omega
  have e:cutX x t=⟨x.n,x.d,x.h + 1,x.t,x.p++[x.d],x.ts++[x.t],x.s,x.g,x.a⟩:=by unfold cutX;rw [hx]
  rw [e]
  repeat' first|refine Zz ?_|intro _
  refine al_append (fun vp=>?_)
  repeat' first|refine Zz ?_|intro _
  refine al_append (fun vt=>?_)
  repeat' first|refine Zz ?_|intro _
  refine reK (tlS { I with p:=vp,t:=vt }) ⟨vp,vt,?_,rfl⟩ ?_
  ·show AV.agg 9 _=AV.agg 9 _
   rw [List.map_append,List.map_append]
   rfl
  ·exact sbl
end Go.Proofs.YtlmcongmglfaeaaGreatDoor
