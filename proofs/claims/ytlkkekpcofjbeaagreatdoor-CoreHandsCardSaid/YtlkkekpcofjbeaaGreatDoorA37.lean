/- chapter 18, the document's way, walked: coins and clients -/
import Derived.Test.YtlkkekpcofjbeaaGreatDoorA27
import Derived.Test.YtlkkekpcofjbeaaGreatDoorA28
import Derived.Test.YtlkkekpcofjbeaaGreatDoorA29
import Derived.Test.YtlkkekpcofjbeaaGreatDoorA30
import Derived.Test.YtlkkekpcofjbeaaGreatDoorA34
import Derived.Test.YtlkkekpcofjbeaaGreatDoorA35
import Derived.Test.YtlkkekpcofjbeaaGreatDoorA36
namespace Go.Proofs.YtlkkekpcofjbeaaGreatDoor
open Go Go.RowKit Tw Av
attribute [local irreducible] clB enB
instance fnLProved {d:List Ent}{h t:Int}{i k v:Bs}{x:TxX}{xs:List AV}[hx:Ents xs d]:Ans Tryz.prog GL 131 [.agg 3 [.agg 1 [.sl 2 xs none],int h,int t],str i,txA x,str k,str v] (DOk d/\TxB x) (int (prE d i x.t t k v x.f)):=⟨fun hp=>by
 obtain⟨hd,hb⟩:=hp
 have b1:DOk d/\x.f.m<=9223372036854775807:=⟨hd,by have:=hb.fm;omega⟩
 refine qE Tryz.func131 rfl Tryz.ntmps131 rfl (fun _ hs=>?_)
 repeat' first|refine Zz ?_|intro _
 refine reE ?_
 rfl⟩
class KeyF (f:FuncId)(k:outParam Bs):Prop where
 out:∀ i,Ans Tryz.prog GL f [str i] True (str (kyO k i))
instance keyFK:KeyF 28 [75]:=⟨fun _=>inferInstance⟩
instance keyFH:KeyF 26 [72]:=⟨fun _=>inferInstance⟩
instance fnKeyF {f:FuncId}{k i:Bs}[h:KeyF f k]:Ans Tryz.prog GL f [str i] True (str (kyO k i)):=h.out i
theorem initE_s {o q:Bs}:(initE o q).1.s<=9223372036854775807:=by
 unfold initE
 split
 ·exact (by decide:(1:Int)<=9223372036854775807)
 ·exact (by decide:(0:Int)<=9223372036854775807)
theorem tryE_s {o p:Bs}{t:EndX}:(tryE o p t).1.s<=9223372036854775807:=by
 unfold tryE
 split
 ·exact (by decide:(0:Int)<=9223372036854775807)
 ·split
  ·exact (by decide:(0:Int)<=9223372036854775807)
  ·exact (by decide:(2:Int)<=9223372036854775807)
theorem openE_s {x t:EndX}{a b:Int}{i p:Bs}:(openE x a i p t b).1.s<=9223372036854775807:=by
 unfold openE
 split
 ·exact (by decide:(3:Int)<=9223372036854775807)
 ·exact (by decide:(0:Int)<=9223372036854775807)
theorem ackE_s {x t:EndX}{i p:Bs}:(ackE x i p t).1.s<=9223372036854775807:=by
 unfold ackE
 split
 ·decide
 ·exact openE_s
set_option maxHeartbeats 2000000 in
instance fnLBegin {f:FuncId}{kk:Bs}[FnB Tryz.prog f][KeyF f kk]{d:List Ent}{h t:Int}{i:Bs}{x:TxX}{b:Bool}{xs:List AV}[hx:Ents xs d]:Ans Tryz.prog GL 116 [.agg 3 [.agg 1 [.sl 2 xs none],int h,int t],txA x,str i,fnv f [],boo b] (DOk d/\TxB x) (.tup [dA (begR d x i kk b t).1,repA (begR d x i kk b t).2]):=⟨fun hp=>by
 have hp':=hp
 obtain⟨hd,hb⟩:=hp
 have h':=hx.out
 subst h'
 have e1:=initE_s (o:=x.o) (q:=x.q)
 have e2:=tryE_s (o:=x.o) (p:=x.p) (t:=⟨1,x.q,x.o,[]⟩)
 refine qE Tryz.func116 rfl Tryz.ntmps116 rfl (fun _ hs=>?_)
 repeat' first|refine Zz ?_|intro _
 unfold begR
 cases b
 ·rw [if_pos rfl]
  repeat' first|refine Zz ?_|intro _
  by_cases h3:(initE x.o x.q).2=0
  rotate_left
  ·rw [if_pos h3,dT h3]
   repeat' first|refine Zz ?_|intro _
   refine reE ?_
   rfl
  rw [if_neg (nni h3),dZ (nni h3)]
  repeat' first|refine Zz ?_|intro _
  refine reE ?_
  rfl
 rw [if_neg (show ¬ true=false by decide)]
 repeat' first|refine Zz ?_|intro _
 by_cases h1:prE d i x.t t (kyO kk x.p) (enxB ⟨1,x.q,x.o,[]⟩) x.f=0
 rotate_left
 ·rw [if_pos h1,dT h1]
  repeat' first|refine Zz ?_|intro _
  refine reE ?_
  rfl
 rw [if_neg (nni h1),dZ (nni h1)]
 repeat' first|refine Zz ?_|intro _
 by_cases h3:(tryE x.o x.p ⟨1,x.q,x.o,[]⟩).2=0
 rotate_left
 ·rw [if_pos h3,dT h3]
  repeat' first|refine Zz ?_|intro _
  refine reE ?_
  rfl
 rw [if_neg (nni h3),dZ (nni h3)]
 repeat' first|refine Zz ?_|intro _
 refine reE ?_
 rfl⟩
set_option maxHeartbeats 2000000 in
instance fnLConnect {d:List Ent}{h t:Int}{x:TxX}{xs:List AV}[hx:Ents xs d]:Ans Tryz.prog GL 64 [.agg 3 [.agg 1 [.sl 2 xs none],int h,int t],txA x] (DOk d/\TxB x) (.tup [dA (conR d x t).1,repA (conR d x t).2]):=⟨fun hp=>by
 have hp':=hp
 obtain⟨hd,hb⟩:=hp
 have h':=hx.out
 subst h'
 refine qE Tryz.func64 rfl Tryz.ntmps64 rfl (fun _ hs=>?_)
 repeat' first|refine Zz ?_|intro _
 unfold conR
 cases h1:partB x.i
 ·rw [if_pos rfl]
  repeat' first|refine Zz ?_|intro _
  refine reE ?_
  rfl
 rw [if_neg (show ¬ true=false by decide)]
 repeat' first|refine Zz ?_|intro _
 cases h2:enB d [75] x.i
 rotate_left
 ·rw [if_pos rfl]
  repeat' first|refine Zz ?_|intro _
  refine reE ?_
  rfl
 rw [if_neg (show ¬ false=true by decide)]
 repeat' first|refine Zz ?_|intro _
 cases h3:clB d x.o
 ·rw [if_pos rfl]
  repeat' first|refine Zz ?_|intro _
  refine reE ?_
  rfl
 rw [if_neg (show ¬ true=false by decide)]
 repeat' first|refine Zz ?_|intro _
 refine reE ?_
 rfl⟩
set_option maxHeartbeats 2000000 in
instance fnLOpen {d:List Ent}{h t:Int}{x:TxX}{xs:List AV}[hx:Ents xs d]:Ans Tryz.prog GL 66 [.agg 3 [.agg 1 [.sl 2 xs none],int h,int t],txA x] (DOk d/\TxB x) (.tup [dA (opnR d x t).1,repA (opnR d x t).2]):=⟨fun hp=>by
 have hp':=hp
 obtain⟨hd,hb⟩:=hp
 have h':=hx.out
 subst h'
 refine qE Tryz.func66 rfl Tryz.ntmps66 rfl (fun _ hs=>?_)
 repeat' first|refine Zz ?_|intro _
 unfold opnR
 cases h1:partB x.i
 ·rw [if_pos rfl]
  repeat' first|refine Zz ?_|intro _
  refine reE ?_
  rfl
 rw [if_neg (show ¬ true=false by decide)]
 repeat' first|refine Zz ?_|intro _
 cases h2:enB d [72] x.i
 rotate_left
 ·rw [if_pos rfl]
  repeat' first|refine Zz ?_|intro _
  refine reE ?_
  rfl
 rw [if_neg (show ¬ false=true by decide)]
 repeat' first|refine Zz ?_|intro _
 cases h3:enB d [75] x.o
 ·rw [if_pos rfl]
  repeat' first|refine Zz ?_|intro _
  refine reE ?_
  rfl
 rw [if_neg (show ¬ true=false by decide)]
 repeat' first|refine Zz ?_|intro _
 by_cases h4:(enR d [75] x.o).s=3
 rotate_left
 ·rw [if_pos h4,dT h4]
  repeat' first|refine Zz ?_|intro _
  refine reE ?_
  rfl
 rw [if_neg (nni h4),dZ (nni h4)]
 repeat' first|refine Zz ?_|intro _
 refine reE ?_
 rfl⟩
def joiQ (d:List Ent)(x:TxX)(i k pp:Bs)(th:EndX)(r:EndX × Int)(t:Int):Out18:=if prE d i x.t t (kyO k pp) (enxB th) x.f≠0 then failR d (prE d i x.t t (kyO k pp) (enxB th) x.f) else if r.2≠0 then failR d r.2 else putsR d (kyO k x.i) (enxB r.1)
theorem joi_t {d:List Ent}{x:TxX}{own:EndX}{i k:Bs}{t:Int}:joiR d x own i k true t=joiQ d x i k x.p ⟨2,own.q,own.o,x.i⟩ (ackE own x.i x.p ⟨2,own.q,own.o,x.i⟩) t:=rfl
theorem joi_f {d:List Ent}{x:TxX}{own:EndX}{i k:Bs}{t:Int}:joiR d x own i k false t=joiQ d x i k own.p ⟨3,own.q,own.o,x.i⟩ (cnfE own x.i ⟨3,own.q,own.o,x.i⟩) t:=rfl
set_option maxHeartbeats 2000000 in
instance fnLJoined {f:FuncId}{kk:Bs}[FnB Tryz.prog f][KeyF f kk]{d:List Ent}{h t:Int}{i:Bs}{x:TxX}{b:Bool}{s:Int}{o q p:Bs}{xs:List AV}[hx:Ents xs d]:Ans Tryz.prog GL 117 [.agg 3 [.agg 1 [.sl 2 xs none],int h,int t],txA x,.agg 4 [int s,str o,str q,str p],str i,fnv f [],boo b] (DOk d/\TxB x) (.tup [dA (joiR d x ⟨s,o,q,p⟩ i kk b t).1,repA (joiR d x ⟨s,o,q,p⟩ i kk b t).2]):=⟨fun hp=>by
 have hp':=hp
 obtain⟨hd,hb⟩:=hp
 have h':=hx.out
 subst h'
 have e1:=ackE_s (x:=⟨s,o,q,p⟩) (i:=x.i) (p:=x.p) (t:=⟨2,q,o,x.i⟩)
 have e2:(cnfE ⟨s,o,q,p⟩ x.i ⟨3,q,o,x.i⟩).1.s<=9223372036854775807:=openE_s
 refine qE Tryz.func117 rfl Tryz.ntmps117 rfl (fun _ hs=>?_)
 repeat' first|refine Zz ?_|intro _
 cases b
 ·rw [joi_f]
  repeat' first|refine Zz ?_|intro _
  unfold joiQ
  by_cases h1:prE d i x.t t (kyO kk p) (enxB ⟨3,q,o,x.i⟩) x.f=0
  rotate_left
  ·rw [if_pos h1,dT h1]
   repeat' first|refine Zz ?_|intro _
   refine reE ?_
   rfl
  rw [if_neg (nni h1),dZ (nni h1)]
  repeat' first|refine Zz ?_|intro _
  by_cases h3:(cnfE ⟨s,o,q,p⟩ x.i ⟨3,q,o,x.i⟩).2=0
  rotate_left
  ·rw [if_pos h3,dT h3]
   repeat' first|refine Zz ?_|intro _
   refine reE ?_
   rfl
  rw [if_neg (nni h3),dZ (nni h3)]
  repeat' first|refine Zz ?_|intro _
  refine reE ?_
  rfl
 ·rw [joi_t]
  repeat' first|refine Zz ?_|intro _
  unfold joiQ
  by_cases h1:prE d i x.t t (kyO kk x.p) (enxB ⟨2,q,o,x.i⟩) x.f=0
  rotate_left
  ·rw [if_pos h1,dT h1]
   repeat' first|refine Zz ?_|intro _
   refine reE ?_
   rfl
  rw [if_neg (nni h1),dZ (nni h1)]
  repeat' first|refine Zz ?_|intro _
  by_cases h3:(ackE ⟨s,o,q,p⟩ x.i x.p ⟨2,q,o,x.i⟩).2=0
  rotate_left
  ·rw [if_pos h3,dT h3]
   repeat' first|refine Zz ?_|intro _
   refine reE ?_
   rfl
  rw [if_neg (nni h3),dZ (nni h3)]
  repeat' first|refine Zz ?_|intro _
  refine reE ?_
  rfl⟩
set_option maxHeartbeats 2000000 in
instance fnLConnected {d:List Ent}{h t:Int}{x:TxX}{xs:List AV}[hx:Ents xs d]:Ans Tryz.prog GL 65 [.agg 3 [.agg 1 [.sl 2 xs none],int h,int t],txA x] (DOk d/\TxB x) (.tup [dA (codR d x t).1,repA (codR d x t).2]):=⟨fun hp=>by
 have hp':=hp
 obtain⟨hd,hb⟩:=hp
 have h':=hx.out
 subst h'
 refine qE Tryz.func65 rfl Tryz.ntmps65 rfl (fun _ hs=>?_)
 repeat' first|refine Zz ?_|intro _
 unfold codR
 cases h3:enB d [75] x.i
 ·rw [if_pos rfl]
  repeat' first|refine Zz ?_|intro _
  refine reE ?_
  rfl
 rw [if_neg (show ¬ true=false by decide)]
 repeat' first|refine Zz ?_|intro _
 refine reE ?_
 rfl⟩
set_option maxHeartbeats 2000000 in
instance fnLOpened {d:List Ent}{h t:Int}{x:TxX}{xs:List AV}[hx:Ents xs d]:Ans Tryz.prog GL 67 [.agg 3 [.agg 1 [.sl 2 xs none],int h,int t],txA x] (DOk d/\TxB x) (.tup [dA (opdR d x t).1,repA (opdR d x t).2]):=⟨fun hp=>by
 have hp':=hp
 obtain⟨hd,hb⟩:=hp
 have h':=hx.out
 subst h'
 refine qE Tryz.func67 rfl Tryz.ntmps67 rfl (fun _ hs=>?_)
 repeat' first|refine Zz ?_|intro _
 unfold opdR
 cases h3:enB d [72] x.i
 ·rw [if_pos (.inl rfl)]
  repeat' first|refine Zz ?_|intro _
  refine reE ?_
  rfl
 repeat' first|refine Zz ?_|intro _
 cases h4:enB d [75] (enR d [72] x.i).o
 ·rw [if_pos (.inr rfl)]
  repeat' first|refine Zz ?_|intro _
  refine reE ?_
  rfl
 rw [if_neg (show ¬ (true=false\/true=false) by decide)]
 repeat' first|refine Zz ?_|intro _
 refine reE ?_
 rfl⟩
end Go.Proofs.YtlkkekpcofjbeaaGreatDoor

namespace Go.Proofs.YtlkkekpcofjbeaaGreatDoor
open Go Go.RowKit Tw Av
attribute [local irreducible] clB enB
def Asks (f:FuncId)(cs:List Value)(m:List Av.Piece)(A:EndX->Bool):Prop:=∀ c:EndX,Av.Spec Tryz.prog GL f (.agg 4 [int c.s,str c.o,str c.q,str c.p]::cs.map .lit) m fun u m'=>u=boo (A c)/\m'=m
def chaT (d:List Ent)(i:Bs)(A:EndX->Bool):AV:=.tup [endA (enR d [72] i),str (if chaE d i A=0 then chaN d i else []),boo (decide (chaE d i A=0) && chaK d i),int (chaE d i A)]
set_option maxHeartbeats 2000000 in
theorem chan_spec {f:FuncId}[FnB Tryz.prog f]{cs:List Value}{m:List Av.Piece}{A:EndX->Bool}{d:List Ent}{h t:Int}{i:Bs}(ha:Asks f cs m A)(hc:∀ v ∈ cs,v.oneCell'=true)(hd:DOk d) :
  Av.Spec Tryz.prog GL 118 [.agg 3 [dA d,int h,int t],str i,fnv f cs] m fun u m'=>u=chaT d i A/\m'=m:=by
 refine qE Tryz.func118 rfl Tryz.ntmps118 rfl (fun _ hs=>?_)
 repeat' first|refine Zz ?_|intro _
 rename_i g1 g2
 unfold chaT chaE
 cases h1:enB d [72] i
 ·rw [if_pos rfl]
  repeat' first|refine Zz ?_|intro _
  refine reK m ⟨rfl,rfl⟩ ?_
  exact sbl
 rw [if_neg (show ¬ true=false by decide)]
 repeat' first|refine Zz ?_|intro _
 by_cases h2:(enR d [72] i).s=3
 rotate_left
 ·rw [dT h2]
  repeat' first|refine Zz ?_|intro _
  refine reK m ⟨?_,rfl⟩ ?_
  ·simp [h2,outOf]
  ·exact sbl
 rw [dZ (nni h2)]
 repeat' first|refine Zz ?_|intro _
 first|refine al_on ?_|skip
 refine al_callV (args:=[endA (enR d [72] i)]) (cs:=cs) m [Av.Piece.var g2 66 (endA (enR d [72] i)),.var g1 99 (.agg 3 [dA d,int h,int t])] (by rw [hs];exact ha _) (fun u m' hh=>?_) (List.perm_append_comm (l₁:=[Av.Piece.var g2 66 (endA (enR d [72] i)),.var g1 99 (.agg 3 [dA d,int h,int t])]) (l₂:=m)) (hcs:=hc)
 obtain⟨rfl,rfl⟩:=hh
 refine al_st (fun ok w hS=>hS.perm (m':=[Av.Piece.var g2 66 (endA (enR d [72] i)),.var g1 99 (.agg 3 [dA d,int h,int t])]++m') List.perm_append_comm) ?_
 cases h3:A (enR d [72] i)
 ·repeat' first|refine Zz ?_|intro _
  refine reK m' ⟨?_,rfl⟩ ?_
  ·simp [h2,outOf]
  ·exact sbl
 rw [if_neg (show ¬ ((enR d [72] i).s≠3\/true=false) by simp [h2])]
 repeat' first|refine Zz ?_|intro _
 refine reK m' ⟨?_,rfl⟩ ?_
 ·rfl
 ·exact sbl
theorem send_asks:Asks 119 [] [] (fun _=>true):=fun c=>by
 show Av.Spec _ _ _ [.agg 4 [int c.s,str c.o,str c.q,str c.p]] _ _
 refine qE Tryz.func119 rfl Tryz.ntmps119 rfl (fun _ hs=>?_)
 repeat' first|refine Zz ?_|intro _
 refine reK [] ⟨rfl,rfl⟩ ?_
 exact sbl
theorem nums_le {x:Pkt}(h:chkP x=true):x.q<=1099511627776/\x.h<=1099511627776/\x.t<=1099511627776/\1<=x.q:=by
 unfold chkP numsP at h
 rw [bet,decide_eq_true_iff] at h
 obtain⟨⟨h0,h1,_,h2,_,h3,_⟩,_⟩:=h
 exact⟨h1,h2,h3,h0⟩
set_option maxHeartbeats 2000000 in
instance fnLSend {d:List Ent}{h t:Int}{x:TxX}{xs:List AV}[hx:Ents xs d]:Ans Tryz.prog GL 68 [.agg 3 [.agg 1 [.sl 2 xs none],int h,int t],txA x] (DOk d/\TxB x) (.tup [dA (sndR d x.x).1,repA (sndR d x.x).2]):=⟨fun hp=>by
 have hp':=hp
 obtain⟨hd,hb⟩:=hp
 have h':=hx.out
 subst h'
 have b1:=hb.d
 have b2:=hb.s
 refine qE Tryz.func68 rfl Tryz.ntmps68 rfl (fun _ hs=>?_)
 repeat' first|refine Zz ?_|intro _
 refine al_callK (args:=[.agg 3 [dA d,int h,int t],str x.x.s,fnv 119 []]) [] _ (by rw [hs];exact chan_spec send_asks (by simp) hd) (fun u m' hh=>?_) lpr
 obtain⟨rfl,rfl⟩:=hh
 unfold chaT sndR goes
 repeat' first|refine Zz ?_|intro _
 by_cases h1:chaE d x.x.s (fun _=>true)=0
 rotate_left
 ·rw [if_pos h1,dT h1]
  repeat' first|refine Zz ?_|intro _
  refine reE ?_
  rfl
 rw [if_neg (nni h1),dZ (nni h1),dT h1,if_pos h1,Bool.true_and]
 repeat' first|refine Zz ?_|intro _
 unfold chkN
 cases h2:chkP ⟨nxR d x.x.s,x.x.s,(enR d [72] x.x.s).p,x.x.d,x.x.a,x.x.f,x.x.g,x.x.h,x.x.t⟩
 ·rw [if_pos rfl,if_neg (show ¬ false=true by decide),dT (show (1:Int)≠0 by decide)]
  repeat' first|refine Zz ?_|intro _
  refine reE ?_
  rfl
 rw [if_neg (show ¬ true=false by decide),if_pos rfl,dZ (show ¬ (0:Int)≠0 by decide)]
 repeat' first|refine Zz ?_|intro _
 cases h3:chaK d x.x.s
 ·rw [if_pos (.inl rfl)]
  repeat' first|refine Zz ?_|intro _
  refine reE ?_
  rfl
 repeat' first|refine Zz ?_|intro _
 cases h4:clB d (chaN d x.x.s)
 ·rw [if_pos (.inr rfl)]
  repeat' first|refine Zz ?_|intro _
  refine reE ?_
  rfl
 rw [if_neg (show ¬ (true=false\/true=false) by decide)]
 repeat' first|refine Zz ?_|intro _
 cases h5:lateP ⟨nxR d x.x.s,x.x.s,(enR d [72] x.x.s).p,x.x.d,x.x.a,x.x.f,x.x.g,x.x.h,x.x.t⟩ (latC (clR d (chaN d x.x.s)).l).h (latC (clR d (chaN d x.x.s)).l).t
 rotate_left
 ·rw [if_pos rfl]
  repeat' first|refine Zz ?_|intro _
  refine reE ?_
  rfl
 rw [if_neg (show ¬ false=true by decide)]
 have q1:DOk d/\x.x.s.length<=1000000000/\x.x.d.length<=1000000000:=⟨hd,by omega,by omega⟩
 have q2:nxR d x.x.s<=1099511627776/\x.x.h<=1099511627776/\x.x.t<=1099511627776/\1<=nxR d x.x.s:=nums_le h2
 obtain⟨q3,q4,q5,q8⟩:=q2
 have q6:DOk (sendR d ⟨nxR d x.x.s,x.x.s,(enR d [72] x.x.s).p,x.x.d,x.x.a,x.x.f,x.x.g,x.x.h,x.x.t⟩).1:=sendR_dok hd
 repeat' first|refine Zz ?_|intro _
 unfold thenR
 dsimp only
 by_cases h6:(sendR d ⟨nxR d x.x.s,x.x.s,(enR d [72] x.x.s).p,x.x.d,x.x.a,x.x.f,x.x.g,x.x.h,x.x.t⟩).2=0
 rotate_left
 ·rw [if_neg h6,dZ h6]
  repeat' first|refine Zz ?_|intro _
  rw [dZ h6]
  repeat' first|refine Zz ?_|intro _
  refine reE ?_
  rfl
 rw [if_pos h6,dT h6]
 repeat' first|refine Zz ?_|intro _
 have q7:DOk (putR (sendR d ⟨nxR d x.x.s,x.x.s,(enR d [72] x.x.s).p,x.x.d,x.x.a,x.x.f,x.x.g,x.x.h,x.x.t⟩).1 (kyW [80] x.x.s (nxR d x.x.s)) (comP ⟨nxR d x.x.s,x.x.s,(enR d [72] x.x.s).p,x.x.d,x.x.a,x.x.f,x.x.g,x.x.h,x.x.t⟩)).1:=putR_dok q6
 by_cases h7:(putR (sendR d ⟨nxR d x.x.s,x.x.s,(enR d [72] x.x.s).p,x.x.d,x.x.a,x.x.f,x.x.g,x.x.h,x.x.t⟩).1 (kyW [80] x.x.s (nxR d x.x.s)) (comP ⟨nxR d x.x.s,x.x.s,(enR d [72] x.x.s).p,x.x.d,x.x.a,x.x.f,x.x.g,x.x.h,x.x.t⟩)).2=0
 rotate_left
 ·rw [if_neg h7,dZ h7]
  repeat' first|refine Zz ?_|intro _
  refine reE ?_
  rfl
 rw [if_pos h7,dT h7]
 repeat' first|refine Zz ?_|intro _
 refine reE ?_
 rfl⟩
end Go.Proofs.YtlkkekpcofjbeaaGreatDoor

namespace Go.Proofs.YtlkkekpcofjbeaaGreatDoor
open Go Go.RowKit Tw Av
attribute [local irreducible] clB enB
def Eb (n:Int):Prop:=0<=n/\n < 256
theorem e1:Eb 1:=⟨by decide,by decide⟩
end Go.Proofs.YtlkkekpcofjbeaaGreatDoor

namespace Go.Proofs.YtlkkekpcofjbeaaGreatDoor
open Go Go.RowKit Tw Av
attribute [local irreducible] clB enB
end Go.Proofs.YtlkkekpcofjbeaaGreatDoor

namespace Go.Proofs.YtlkkekpcofjbeaaGreatDoor
open Go Go.RowKit Tw Av
attribute [local irreducible] clB enB lateP
end Go.Proofs.YtlkkekpcofjbeaaGreatDoor

namespace Go.Proofs.YtlkkekpcofjbeaaGreatDoor
open Go Go.RowKit Tw Av
def callV (k:Int):AV:=
 if k=1 then fnv 60 [] else if k=2 then fnv 61 [] else if k=3 then fnv 62 [] else if k=4 then fnv 63 [] else if k=5 then fnv 64 [] else if k=6 then fnv 64 [] else if k=7 then fnv 65 [] else if k=8 then fnv 65 [] else if k=9 then fnv 66 [] else if k=10 then fnv 66 [] else if k=11 then fnv 67 [] else if k=12 then fnv 67 [] else if k=13 then fnv 68 [] else if k=14 then fnv 69 [] else if k=15 then fnv 70 [] else if k=16 then fnv 71 [] else .lit .nilFunc
theorem call1:callV 1=fnv 60 []:=rfl
theorem do1 {d:List Ent}{x:TxX}{h t:Int}(e:x.k=1):doR d x h t=fundR d x.x:=by
 unfold doR
 rw [e]
 rfl
theorem call2:callV 2=fnv 61 []:=rfl
theorem do2 {d:List Ent}{x:TxX}{h t:Int}(e:x.k=2):doR d x h t=movR d x.x:=by
 unfold doR
 rw [e]
 rfl
theorem call3:callV 3=fnv 62 []:=rfl
theorem do3 {d:List Ent}{x:TxX}{h t:Int}(e:x.k=3):doR d x h t=creR d x:=by
 unfold doR
 rw [e]
 rfl
theorem call4:callV 4=fnv 63 []:=rfl
theorem do4 {d:List Ent}{x:TxX}{h t:Int}(e:x.k=4):doR d x h t=updR d x t:=by
 unfold doR
 rw [e]
 rfl
theorem call5:callV 5=fnv 64 []:=rfl
theorem do5 {d:List Ent}{x:TxX}{h t:Int}(e:x.k=5):doR d x h t=conR d x t:=by
 unfold doR
 rw [e]
 rfl
theorem call6:callV 6=fnv 64 []:=rfl
theorem do6 {d:List Ent}{x:TxX}{h t:Int}(e:x.k=6):doR d x h t=conR d x t:=by
 unfold doR
 rw [e]
 rfl
theorem call7:callV 7=fnv 65 []:=rfl
theorem do7 {d:List Ent}{x:TxX}{h t:Int}(e:x.k=7):doR d x h t=codR d x t:=by
 unfold doR
 rw [e]
 rfl
theorem call8:callV 8=fnv 65 []:=rfl
theorem do8 {d:List Ent}{x:TxX}{h t:Int}(e:x.k=8):doR d x h t=codR d x t:=by
 unfold doR
 rw [e]
 rfl
theorem call9:callV 9=fnv 66 []:=rfl
theorem do9 {d:List Ent}{x:TxX}{h t:Int}(e:x.k=9):doR d x h t=opnR d x t:=by
 unfold doR
 rw [e]
 rfl
theorem call10:callV 10=fnv 66 []:=rfl
theorem do10 {d:List Ent}{x:TxX}{h t:Int}(e:x.k=10):doR d x h t=opnR d x t:=by
 unfold doR
 rw [e]
 rfl
theorem call11:callV 11=fnv 67 []:=rfl
theorem do11 {d:List Ent}{x:TxX}{h t:Int}(e:x.k=11):doR d x h t=opdR d x t:=by
 unfold doR
 rw [e]
 rfl
theorem call12:callV 12=fnv 67 []:=rfl
theorem do12 {d:List Ent}{x:TxX}{h t:Int}(e:x.k=12):doR d x h t=opdR d x t:=by
 unfold doR
 rw [e]
 rfl
theorem call13:callV 13=fnv 68 []:=rfl
theorem do13 {d:List Ent}{x:TxX}{h t:Int}(e:x.k=13):doR d x h t=sndR d x.x:=by
 unfold doR
 rw [e]
 rfl
theorem call14:callV 14=fnv 69 []:=rfl
theorem do14 {d:List Ent}{x:TxX}{h t:Int}(e:x.k=14):doR d x h t=rcvR d x h t:=by
 unfold doR
 rw [e]
 rfl
theorem call15:callV 15=fnv 70 []:=rfl
theorem do15 {d:List Ent}{x:TxX}{h t:Int}(e:x.k=15):doR d x h t=acksR d x t:=by
 unfold doR
 rw [e]
 rfl
theorem call16:callV 16=fnv 71 []:=rfl
theorem do16 {d:List Ent}{x:TxX}{h t:Int}(e:x.k=16):doR d x h t=timR d x t:=by
 unfold doR
 rw [e]
 rfl
theorem callN {k:Int}(h:¬ (1<=k/\k<=16)):callV k=.lit .nilFunc:=by
 unfold callV
 repeat rw [if_neg (by omega)]
theorem doN {d:List Ent}{x:TxX}{h t:Int}(e:¬ (1<=x.k/\x.k<=16)):doR d x h t=failR d 1:=by
 unfold doR
 repeat rw [if_neg (by omega)]
attribute [local irreducible] clB enB lateP fundR movR creR updR conR codR opnR opdR sndR rcvR acksR timR callV doR
section
variable {P:Program} {N:Nat} {ops:Array Oper} {Q:Exit->Act->World->Prop} {rest:List Oper} {s:Av.Base} {e:Av.Env} {m:List Av.Piece} {d:Nat} {ty:TypeId} {pos:String} {af:Array Edge}
def isFn:Option TypeDesc->Bool
 | some (.func _ _ _)=>true
 | _=>false
theorem isFn_out {o:Option TypeDesc}(h:isFn o=true):∃ A B C,o=some (.func A B C):=by
 unfold isFn at h
 split at h
 ·exact⟨_,_,_,rfl⟩
 ·cases h
theorem al_fnNF {op:BinOp}{T yT:TypeId}(hT:isFn (P.underlying T)=true){x y:Operand}{f:FuncId}{cs:List Value}{c:Bool}(h:AL P N ops Q s rest ((d,boo c)::e) m)(hx:Av.ev e x=some (fnv f cs):=by exact rfl)(hy:Av.ev e y=some (.lit .nilFunc):=by exact rfl)(hc:eqs op false=some c:=by exact rfl)(hd:Nat.blt d N=true:=by exact rfl):AL P N ops Q s (⟨some d,.binOp op T x y yT,ty,pos,af,none⟩::rest) e m:=
 al_lit rfl (fun ok w A hA=>by
  obtain⟨_,_,_,ht⟩:=isFn_out hT
  exact run_eqs (hA.lit hx) (hA.lit hy) (by simp) (by simp) (by simp) (by simp) (by unfold eqGuard;cases op <;> rfl) (by
  have h:∀ d:Nat,(Op.equalIn (d + 1) T (.func (.func f) #[] cs.toArray) .nilFunc).run P w=.ok false w:=fun d=>by simp [Op.equalIn,run_underlying ht]
  exact h 9999) hc) hd h
end
theorem kinds {k:Int}(h:1<=k/\k<=16):k=1\/k=2\/k=3\/k=4\/k=5\/k=6\/k=7\/k=8\/k=9\/k=10\/k=11\/k=12\/k=13\/k=14\/k=15\/k=16:=by omega
set_option maxHeartbeats 2000000 in
instance fnCoCall {k:Int}:Ans Tryz.prog GL 29 [int k] True (callV k):=⟨fun _=>by
 refine qE Tryz.func29 rfl Tryz.ntmps29 rfl (fun _ hs=>?_)
 by_cases h:1<=k/\k<=16
 ·rcases kinds h with rfl|rfl|rfl|rfl|rfl|rfl|rfl|rfl|rfl|rfl|rfl|rfl|rfl|rfl|rfl|rfl
  all_goals
   repeat' first|refine Zz ?_|intro _
   refine reE ?_
   first|exact call1.symm|exact call2.symm|exact call3.symm|exact call4.symm|exact call5.symm|exact call6.symm|exact call7.symm|exact call8.symm|exact call9.symm|exact call10.symm|exact call11.symm|exact call12.symm|exact call13.symm|exact call14.symm|exact call15.symm|exact call16.symm
 ·repeat' first|refine Zz ?_|intro _
  refine reE ?_
  exact (callN h).symm⟩
end Go.Proofs.YtlkkekpcofjbeaaGreatDoor

namespace Go.Proofs.YtlkkekpcofjbeaaGreatDoor
open Go Go.RowKit Tw Av
theorem tellR_dok {d:List Ent}{r:List Ent × Int}{p:Rep}(h:DOk d)(hr:DOk r.1):DOk (tellR d r p).1:=by
 unfold tellR failR
 split
 ·exact hr
 ·exact h
theorem putsR_dok {d:List Ent}{k v:Bs}(h:DOk d):DOk (putsR d k v).1:=tellR_dok h (putR_dok h)
theorem begR_dok {d:List Ent}{x:TxX}{i k:Bs}{b:Bool}{t:Int}(h:DOk d):DOk (begR d x i k b t).1:=by
 unfold begR
 repeat' (first|exact h|exact putsR_dok h|split)
theorem joiR_dok {d:List Ent}{x:TxX}{own:EndX}{i k:Bs}{b:Bool}{t:Int}(h:DOk d):DOk (joiR d x own i k b t).1:=by
 cases b
 ·rw [joi_f]
  unfold joiQ
  split
  ·exact h
  ·split
   ·exact h
   ·exact putsR_dok h
 ·rw [joi_t]
  unfold joiQ
  split
  ·exact h
  ·split
   ·exact h
   ·exact putsR_dok h
theorem endR_dok {d:List Ent}{x:Pkt}{b:Bool}{e:Int}(h:DOk d):DOk (endR d x b e).1:=by
 unfold endR
 split
 ·exact h
 split
 ·exact h
 split
 ·exact h
 split
 ·exact h
 refine DOk.drp ?_ _
 split
 ·exact backR_dok h
 ·exact h
section
variable {d:List Ent} {x:TxX} {h t:Int} (hd:DOk d)
include hd
theorem fundR_dok:DOk (fundR d x.x).1:=by
 unfold fundR
 split
 ·exact hd
 ·exact tellR_dok hd (mintR_dok hd)
theorem movR_dok:DOk (movR d x.x).1:=by
 unfold movR
 split
 ·exact hd
 ·exact tellR_dok hd (moveR_dok hd)
theorem creR_dok:DOk (creR d x).1:=by
 unfold creR
 split
 ·exact hd
 ·split
  ·exact hd
  ·split
   ·exact hd
   ·exact putsR_dok hd
theorem updR_dok:DOk (updR d x t).1:=by
 unfold updR
 split
 ·exact hd
 ·split
  ·exact hd
  ·exact putsR_dok hd
theorem conR_dok:DOk (conR d x t).1:=by
 unfold conR
 split
 ·exact hd
 ·split
  ·exact hd
  ·split
   ·exact hd
   ·exact begR_dok hd
theorem codR_dok:DOk (codR d x t).1:=by
 unfold codR
 split
 ·exact hd
 ·exact joiR_dok hd
theorem opnR_dok:DOk (opnR d x t).1:=by
 unfold opnR
 split
 ·exact hd
 ·split
  ·exact hd
  ·split
   ·exact hd
   ·split
    ·exact hd
    ·exact begR_dok hd
theorem opdR_dok:DOk (opdR d x t).1:=by
 unfold opdR
 split
 ·exact hd
 ·exact joiR_dok hd
theorem sndR_dok:DOk (sndR d x.x).1:=by
 unfold sndR
 split
 ·exact hd
 ·split
  ·exact hd
  ·split
   ·exact hd
   ·split
    ·exact hd
    ·exact tellR_dok hd (thenR_dok hd (fun d h=>sendR_dok h) (fun d h=>thenR_dok h (fun d h=>putR_dok h) (fun d h=>putR_dok h)))
theorem rcvR_dok:DOk (rcvR d x h t).1:=by
 have h1:DOk (if (recvR d x.x).2=0 then (recvR d x.x).1 else d):=by
  split
  ·exact recvR_dok hd
  ·exact hd
 unfold rcvR
 generalize (if (recvR d x.x).2=0 then (recvR d x.x).1 else d)=D at *
 split
 ·exact hd
 split
 ·exact hd
 split
 ·exact hd
 split
 ·exact hd
 split
 ·exact hd
 split
 ·exact hd
 exact tellR_dok hd (putR_dok h1)
theorem acksR_dok:DOk (acksR d x t).1:=by
 unfold acksR
 split
 ·exact hd
 ·exact endR_dok hd
theorem timR_dok:DOk (timR d x t).1:=by
 unfold timR
 split
 ·exact hd
 ·exact endR_dok hd
theorem doR_dok:DOk (doR d x h t).1:=by
 by_cases hk:1<=x.k/\x.k<=16
 rotate_left
 ·rw [doN hk]
  exact hd
 rcases kinds hk with e|e|e|e|e|e|e|e|e|e|e|e|e|e|e|e
 ·rw [do1 e]
  exact fundR_dok hd
 ·rw [do2 e]
  exact movR_dok hd
 ·rw [do3 e]
  exact creR_dok hd
 ·rw [do4 e]
  exact updR_dok hd
 ·rw [do5 e]
  exact conR_dok hd
 ·rw [do6 e]
  exact conR_dok hd
 ·rw [do7 e]
  exact codR_dok hd
 ·rw [do8 e]
  exact codR_dok hd
 ·rw [do9 e]
  exact opnR_dok hd
 ·rw [do10 e]
  exact opnR_dok hd
 ·rw [do11 e]
  exact opdR_dok hd
 ·rw [do12 e]
  exact opdR_dok hd
 ·rw [do13 e]
  exact sndR_dok hd
 ·rw [do14 e]
  exact rcvR_dok hd
 ·rw [do15 e]
  exact acksR_dok hd
 ·rw [do16 e]
  exact timR_dok hd
end

structure SideX where
 n:Bs
 d:List Ent
 h:Int
 t:Int
 p:List (List Ent)
 ts:List Int
 s:List Pkt
 g:List Pkt
 a:List Bs
def nmK (i:Bool):Bs:=if i=true then [107,98] else [107,97]
def nmN (i:Bool):Bs:=if i=true then [110,98] else [110,97]
def nmH (i:Bool):Bs:=if i=true then [99,98] else [99,97]
def rootD (d:List Ent):Hsh:=topH d.length (treeH (d.map leafH))
def hdrX (y:SideX)(h:Int):Hdr:=⟨y.n,h,y.ts.getD (h - 1).toNat 0,rootD (y.p.getD (h - 1).toNat [])⟩
def cutX (x:SideX)(t:Int):SideX:={ x with h:=x.h + 1,t:=max x.t t,p:=x.p++[x.d],ts:=x.ts++[max x.t t] }
def putX (x:SideX)(k v:Bs):SideX:=if (putR x.d k v).2=0 then { x with d:=(putR x.d k v).1 } else x
def knX (x:SideX)(i:Bool):Int:=(latC (clR x.d (nmK i)).l).h
def pastX (y:SideX)(k:Int):List Ent:=if 1<=k/\k<=y.p.length then y.p.getD (k - 1).toNat [] else []
def memK (d:List Ent)(k:Bs):Prf:=memP d (fndAt d k) (fndIs d k)
def absK (d:List Ent)(k:Bs):Gp:=absG d (fndAt d k) (fndIs d k)
def txK (n k:Int):TxX:=⟨n,[],[],[],[],[],0,zeroHd,zeroH,zeroPk,[],k,zeroP,zeroG⟩
def hanX (i:Bool)(n k:Int)(past:List Ent):TxX:=
 if 6 < n then ⟨n + 3,nmH i,nmN i,nmH (!i),nmN (!i),[],0,zeroHd,zeroH,zeroPk,[],k,memK past (kyO [72] (nmH (!i))),zeroG⟩
 else ⟨n + 3,nmN i,nmK i,nmN (!i),nmK (!i),[],0,zeroHd,zeroH,zeroPk,[],k,memK past (kyO [75] (nmN (!i))),zeroG⟩
def pickI (n many:Int):Int:=((n.tmod many) + many).tmod many
def atPk (l:List Pkt)(n:Int):Pkt:=l.getD (pickI n l.length).toNat zeroPk
def ackTo (g:List Pkt)(a:List Bs)(p:Pkt):Nat->Bs
 | 0=>[43]
 | n + 1=>if g.getD n zeroPk=p then a.getD n [] else ackTo g a p n
def recX (y:SideX)(n k:Int)(past:List Ent):TxX:=
 if y.s=[] then txK 14 k else { txK 14 k with x:=atPk y.s n,f:=memK past (kyW [80] (atPk y.s n).s (atPk y.s n).q) }
def ackX (x y:SideX)(n k:Int)(past:List Ent):TxX:=
 if x.s=[] then txK 15 k else { txK 15 k with x:=atPk x.s n,a:=ackTo y.g y.a (atPk x.s n) y.g.length,f:=memK past (kyW [71] (atPk x.s n).k (atPk x.s n).q) }
def timX (x:SideX)(n k:Int)(past:List Ent):TxX:=
 if x.s=[] then txK 16 k else { txK 16 k with x:=atPk x.s n,g:=absK past (kyW [71] (atPk x.s n).k (atPk x.s n).q) }
def inc0 (a:Wd):Wd:=wOf (wj ((lm a.n 0 + 1) % 18446744073709551616) (lm a.n 1) (lm a.n 2) (lm a.n 3))
theorem hx0_len (h:Hsh):((h.l.set 0 (h.l.getD 0 0 ^^^ 1))).length=32:=by rw [List.length_set,h.len]
def hx0 (h:Hsh):Hsh:=⟨h.l.set 0 (h.l.getD 0 0 ^^^ 1),hx0_len h⟩
def spoX (n:Int)(x:TxX):TxX:=
 if n=1 then { x with t:=x.t + 1 } else if n=2 then { x with x:={ x.x with a:=inc0 x.x.a } } else if n=3 then { x with f:={ x.f with a:=x.f.a + 1 } }
 else if n=4 then { x with m:=hx0 x.m } else if n=5 then { x with a:=failB 16 } else if n=6 then { x with p:=[122,122] } else x
structure StpX where
 i:Int
 k:Int
 n:Int
 a:Int
 t:Int
 s:Int
def sndX (i b:Bool)(k t a lt:Int):TxX:=
 { txK 13 k with x:=⟨0,nmH i,[],if b=true then nmH i++[47,120] else [120],wOf (1 + a).toNat,if b=true then [99,97,116] else [97,110,110],if b=true then [100,97,110] else [99,97,116],k + 2 + t % 4,if b=true then lt + 1 + t % 8 else 0⟩ }
def txN (i:Bool)(x y:SideX)(n:Int)(s:StpX):TxX:=
 if n=1 then { txK 4 (knX x i) with i:=nmK i,h:=hdrX y y.h,m:=sealOf ([107,101,121]++y.n) (hdrX y y.h) }
 else if n=2 then { txK 5 (knX x i) with i:=nmN i,o:=nmK i,q:=nmK (!i) }
 else if n=6 then { txK 9 (knX x i) with i:=nmH i,o:=nmN i,q:=nmN (!i) }
 else if 3<=n/\n<=9 then hanX i n (knX x i) (pastX y (knX x i))
 else if n=10 then sndX i false (knX x i) s.t (s.a % 8) y.t
 else if n=11 then sndX i true (knX x i) s.t (s.a % 8) y.t
 else if n=12 then recX y s.n (knX x i) (pastX y (knX x i))
 else if n=13 then ackX x y s.n (knX x i) (pastX y (knX x i))
 else if n=14 then timX x s.n (knX x i) (pastX y (knX x i))
 else if n=15 then { txK (1 + s.n % 2) (knX x i) with x:=⟨0,[],[],[120],wOf (s.a % 8).toNat,[97,110,110],[99,97,116],0,0⟩ }
 else txK 0 (knX x i)
def txX (i:Bool)(x y:SideX)(s:StpX):TxX:=spoX (s.s % 16) (txN i x y (s.k % 16) s)
def sentX (d:List Ent)(x:Pkt)(r:Rep):Pkt:={ x with q:=r.q,k:=(enR d [72] x.s).p }
def aftX (x:SideX)(t:Int)(z:TxX)(d:List Ent)(r:Rep):SideX:=
 if z.k=0 then cutX x (x.t + t % 4)
 else if r.e≠0 then x
 else if z.k=13 then { x with d:=d,s:=x.s++[sentX d z.x r] }
 else if z.k=14 then { x with d:=d,g:=x.g++[z.x],a:=x.a++[r.a] }
 else { x with d:=d }
def minD:List Ent:=(mintR (mintR [] [97,110,110] [120] (wOf 50)).1 [98,111,98] [121] (wOf 9)).1
def cutS (i:Bool):SideX:=cutX ⟨if i=true then [98] else [97],minD,0,0,[],[],[],[],[]⟩ 1
def clS (i:Bool):Cli:=newR ([107,101,121]++(cutS (!i)).n) 1000 (hdrX (cutS (!i)) 1)
def freS (i:Bool):SideX:=putX (cutS i) (kyO [67] (nmK i)) (cliB (clS i))
def conE (i:Bool):EndX:=⟨3,nmK i,nmK (!i),nmN (!i)⟩
def chaX (i:Bool):EndX:=⟨3,nmN i,nmN (!i),nmH (!i)⟩
structure PkB (p:Pkt):Prop where
 s:p.s.length<=400000000
 k:p.k.length<=400000000
 d:p.d.length<=400000000
 f:p.f.length<=400000000
 g:p.g.length<=400000000
 q:p.q<=9223372036854775807
 h:p.h<=9223372036854775807
 t:p.t<=9223372036854775807
structure SOk (N:Nat)(x:SideX):Prop where
 n:x.n.length=1
 d:DOk x.d
 h:x.h=x.p.length
 h1:1<=x.p.length
 hN:x.p.length<=1 + N
 t:0<=x.t/\x.t<=1 + 3 * N
 p:∀ q ∈ x.p,DOk q
 tl:x.ts.length=x.p.length
 ts:∀ t ∈ x.ts,0<=t/\t<=1 + 3 * N
 s:∀ p ∈ x.s,PkB p
 sl:x.s.length<=N
 g:∀ p ∈ x.g,PkB p
 gl:x.g.length<=N
 a:∀ p ∈ x.a,p.length<=400000000
 al:x.a.length=x.g.length

structure IdS where
 p:Value
 t:Value
 s:Value
 g:Value
 a:Value
abbrev nmA (i:Bool):AV:=.agg 3 [str (nmK i),str (nmN i),str (nmH i)]
abbrev sdA (x:SideX)(I:IdS):AV:=.agg 9 [str x.n,.sl 2 (x.d.map entA) none,int x.h,int x.t,.sl 1 (x.p.map dSl) (some I.p),.sl 1 (x.ts.map fun t:Int=>int t) (some I.t),.sl 12 (x.s.map pktA) (some I.s),.sl 12 (x.g.map pktA) (some I.g),.sl 1 (x.a.map str) (some I.a)]
abbrev wdA (a b:SideX)(I J:IdS):AV:=.agg 18 [.agg 18 [sdA a I,sdA b J]]
abbrev stpA (s:StpX):AV:=.agg 6 [int s.i,int s.k,int s.n,int s.a,int s.t,int s.s]
abbrev tlS (I:IdS):List Av.Piece:=[.tail 23 1 I.p,.tail 3 1 I.t,.tail 49 12 I.s,.tail 49 12 I.g,.tail 9 1 I.a]
instance fnWNames0:Ans Tryz.prog GL 21 [int 0] True (nmA false):=⟨fun _=>by
 refine qE Tryz.func21 rfl Tryz.ntmps21 rfl (fun _ hs=>?_)
 repeat' first|refine Zz ?_|intro _
 refine reE ?_
 rfl⟩
instance fnWNames1:Ans Tryz.prog GL 21 [int 1] True (nmA true):=⟨fun _=>by
 refine qE Tryz.func21 rfl Tryz.ntmps21 rfl (fun _ hs=>?_)
 repeat' first|refine Zz ?_|intro _
 refine reE ?_
 rfl⟩
theorem pick_lt (n:Int){m:Int}(h:1<=m):0<=pickI n m/\pickI n m < m:=by
 unfold pickI
 have h1:=Int.lt_tmod_of_pos n (b:=m) (by omega)
 have h2:0<=n.tmod m + m:=by omega
 exact⟨Int.tmod_nonneg _ h2,Int.tmod_lt_of_pos _ (by omega)⟩
instance fnWPick {n m:Int}:Ans Tryz.prog GL 8 [int n,int m] (1<=m/\m<=1000000) (int (pickI n m)):=⟨fun hp=>by
 obtain⟨h1,h2⟩:=hp
 have h3:=Int.lt_tmod_of_pos n (b:=m) (by omega)
 have h4:=Int.tmod_lt_of_pos n (b:=m) (by omega)
 refine qE Tryz.func8 rfl Tryz.ntmps8 rfl (fun _ hs=>?_)
 repeat' first|refine Zz ?_|intro _
 refine al_tmod ?_
 repeat' first|refine Zz ?_|intro _
 have hq:0<=n.tmod m + m:=by omega
 refine reE ?_
 show int ((n.tmod m + m) % m)=int (pickI n m)
 unfold pickI
 rw [Int.tmod_eq_emod_of_nonneg hq]⟩
theorem rootD_eq (d:List Ent):rootD d=topH d.length (treeH (d.map leafH)):=rfl
attribute [local irreducible] rootD
instance fnWHeader {x:SideX}{I:IdS}{h:Int}:Ans Tryz.prog GL 18 [sdA x I,int h] ((1<=h/\h<=x.p.length)/\(x.p.length<=1000000/\x.ts.length=x.p.length)/\∀ q ∈ x.p,q.length<=1000000) (hdrA (hdrX x h)):=⟨fun hp=>by
 obtain⟨⟨h1,h2⟩,⟨h6,h3⟩,h4⟩:=hp
 obtain⟨i,hi⟩:∃ i:Nat,h - 1=(i:Int):=⟨(h - 1).toNat,by omega⟩
 have hi1:i < x.p.length:=by omega
 have hi2:i < x.ts.length:=by omega
 have h5:=h4 _ (List.getElem_mem hi1)
 have e:hdrX x h=⟨x.n,h,x.ts[i],rootD x.p[i]⟩:=by
  unfold hdrX
  rw [hi]
  simp [List.getD,hi1,hi2]
 rw [e]
 refine qE Tryz.func18 rfl Tryz.ntmps18 rfl (fun _ hs=>?_)
 repeat' first|refine Zz ?_|intro _
 apply obl_read [];exact rfl;exact rfl;kernel_rfl;intro _ _
 refine al_idxM (l:=x.ts) (f:=fun t:Int=>int t) i hi2 ?_
 exact al_nil (ae_got rfl rfl)
 repeat' first|refine Zz ?_|intro _
 apply obl_read [];exact rfl;exact rfl;kernel_rfl;intro _ _
 refine al_idxM (l:=x.p) (f:=dSl) i hi1 ?_
 exact al_nil (ae_got rfl rfl)
 repeat' first|refine Zz ?_|intro _
 refine reE ?_
 rw [rootD_eq]
 rfl⟩
instance fnWPut {x:SideX}{I:IdS}{k v:Bs}:Ans Tryz.prog GL 19 [sdA x I,str k,str v] (DOk x.d) (sdA (putX x k v) I):=⟨fun hd=>by
 refine qE Tryz.func19 rfl Tryz.ntmps19 rfl (fun _ hs=>?_)
 repeat' first|refine Zz ?_|intro _
 unfold putX
 by_cases h:(putR x.d k v).2=0
 ·rw [if_pos h]
  repeat' first|refine Zz ?_|intro _
  refine reE ?_
  rfl
 ·rw [if_neg h]
  repeat' first|refine Zz ?_|intro _
  refine reE ?_
  rfl⟩
theorem fnWCut {x:SideX}{I:IdS}{t:Int}(h1:0<=x.h/\x.h<=1000000)(h2:x.p.length<=1000000)(h3:x.ts.length<=1000000):Av.Spec Tryz.prog GL 16 [sdA x I,int t] (tlS I) fun u m=>∃ vp vt,u=sdA (cutX x t) { I with p:=vp,t:=vt }/\m=tlS { I with p:=vp,t:=vt }:=by
 have hm1:(x.p.map dSl).length=x.p.length:=llm _
 have hm2:(x.ts.map fun t:Int=>int t).length=x.ts.length:=llm _
 refine qE Tryz.func16 rfl Tryz.ntmps16 rfl (fun _ hs=>?_)
 by_cases hc:x.t < t
 ·have hx:max x.t t=t:=by omega
  have e:cutX x t=⟨x.n,x.d,x.h + 1,t,x.p++[x.d],x.ts++[t],x.s,x.g,x.a⟩:=by unfold cutX;rw [hx]
  rw [e]
  repeat' first|refine Zz ?_|intro _
  refine al_append (fun vp=>?_)
  repeat' first|refine Zz ?_|intro _
  refine al_append (fun vt=>?_)
  repeat' first|refine Zz ?_|intro _
  refine reK (tlS { I with p:=vp,t:=vt }) ⟨vp,vt,?_,rfl⟩ ?_
  ·show AV.agg 9 _=AV.agg 9 _
   rw [List.map_append,List.map_append]
   rfl
  ·exact sbl
 ·have hx:max x.t t=x.t:=by omega
  have e:cutX x t=⟨x.n,x.d,x.h + 1,x.t,x.p++[x.d],x.ts++[x.t],x.s,x.g,x.a⟩:=by unfold cutX;rw [hx]
  rw [e]
  repeat' first|refine Zz ?_|intro _
  refine al_append (fun vp=>?_)
  repeat' first|refine Zz ?_|intro _
  refine al_append (fun vt=>?_)
  repeat' first|refine Zz ?_|intro _
  refine reK (tlS { I with p:=vp,t:=vt }) ⟨vp,vt,?_,rfl⟩ ?_
  ·show AV.agg 9 _=AV.agg 9 _
   rw [List.map_append,List.map_append]
   rfl
  ·exact sbl
end Go.Proofs.YtlkkekpcofjbeaaGreatDoor

namespace Go.Proofs.YtlkkekpcofjbeaaGreatDoor
open Go Go.RowKit Tw Av
def fQ (e:Int):Out18:=([],repE e)
def pQ (d:List Ent)(k v:Bs):Out18:=if (putR d k v).2=0 then ((putR d k v).1,rep0) else fQ (putR d k v).2
def coinQ (d:List Ent)(x:TxX):Out18:=if denB x.x.d=false\/plainB x.x.g=false\/(x.k=1/\0 < hopN x.x.d)\/(x.k=2/\plainB x.x.f=false) then fQ 1 else if x.k=1 then ((mintR d x.x.g x.x.d x.x.a).1,repE (mintR d x.x.g x.x.d x.x.a).2) else ((moveR d x.x.f x.x.g x.x.d x.x.a).1,repE (moveR d x.x.f x.x.g x.x.d x.x.a).2)
def cliQ (d:List Ent)(x:TxX)(t:Int):Out18:=
 if x.k=4 then (if clB d x.i=false then fQ 12 else if updE (clR d x.i) x.h x.m t≠0 then fQ (updE (clR d x.i) x.h x.m t) else pQ d (kyO [67] x.i) (cliB (updC (clR d x.i) x.h x.m t)))
 else if partB x.i=false then fQ 1 else if clB d x.i=true then fQ 13 else if newE x.y x.e x.h≠0 then fQ (newE x.y x.e x.h) else pQ d (kyO [67] x.i) (cliB (newR x.y x.e x.h))
def begP (d:List Ent)(x:TxX)(i k:Bs)(try':Bool)(t:Int):Out18:=
 if try'=false then (if (initE x.o x.q).2≠0 then fQ (initE x.o x.q).2 else pQ d (kyO k x.i) (enxB (initE x.o x.q).1))
 else if prE d i x.t t (kyO k x.p) (enxB ⟨1,x.q,x.o,[]⟩) x.f≠0 then fQ (prE d i x.t t (kyO k x.p) (enxB ⟨1,x.q,x.o,[]⟩) x.f)
 else if (tryE x.o x.p ⟨1,x.q,x.o,[]⟩).2≠0 then fQ (tryE x.o x.p ⟨1,x.q,x.o,[]⟩).2
 else pQ d (kyO k x.i) (enxB (tryE x.o x.p ⟨1,x.q,x.o,[]⟩).1)
def begK (d:List Ent)(x:TxX)(b:Bool)(t:Int):Out18:=if partB x.i=false then fQ 1 else if enB d [75] x.i=true then fQ 13 else if clB d x.o=false then fQ 12 else begP d x x.o [75] b t
def begH (d:List Ent)(x:TxX)(b:Bool)(t:Int):Out18:=if partB x.i=false then fQ 1 else if enB d [72] x.i=true then fQ 13 else if enB d [75] x.o=false then fQ 12 else if (enR d [75] x.o).s≠3 then fQ 13 else begP d x (enR d [75] x.o).o [72] b t
def joiP (d:List Ent)(x:TxX)(i k pp:Bs)(th:EndX)(r:EndX × Int)(t:Int):Out18:=if prE d i x.t t (kyO k pp) (enxB th) x.f≠0 then fQ (prE d i x.t t (kyO k pp) (enxB th) x.f) else if r.2≠0 then fQ r.2 else pQ d (kyO k x.i) (enxB r.1)
def joiO (d:List Ent)(x:TxX)(own:EndX)(i k:Bs)(ack:Bool)(t:Int):Out18:=if ack=true then joiP d x i k x.p ⟨2,own.q,own.o,x.i⟩ (ackE own x.i x.p ⟨2,own.q,own.o,x.i⟩) t else joiP d x i k own.p ⟨3,own.q,own.o,x.i⟩ (cnfE own x.i ⟨3,own.q,own.o,x.i⟩) t
def opnK (d:List Ent)(x:TxX)(b:Bool)(t:Int):Out18:=if enB d [75] x.i=false then fQ 12 else joiO d x (enR d [75] x.i) (enR d [75] x.i).o [75] b t
def opnH (d:List Ent)(x:TxX)(b:Bool)(t:Int):Out18:=if enB d [72] x.i=false then fQ 12 else if enB d [75] (enR d [72] x.i).o=false then fQ 12 else joiO d x (enR d [72] x.i) (enR d [75] (enR d [72] x.i).o).o [72] b t

attribute [local irreducible] clB enB
end Go.Proofs.YtlkkekpcofjbeaaGreatDoor
