/- chapter 18: a transaction leaves a map that may be -/
import Derived.Test.YtppngnhckahbnaaGreatDoorA18
import Derived.Test.YtppngnhckahbnaaGreatDoorA46
import Derived.Test.YtppngnhckahbnaaGreatDoorA47
namespace Go.Proofs.YtppngnhckahbnaaGreatDoor
open Go Go.RowKit Tw Av
attribute [local irreducible] clB enB lateP
theorem tim_no {d:List Ent}{x:TxX}{t:Int}(h:goE d (chaN d x.x.s) x.t t (kyW [71] x.x.k x.x.q) x.g≠0):timE d x t=goE d (chaN d x.x.s) x.t t (kyW [71] x.x.k x.x.q) x.g:=by
 unfold timE
 rw [if_neg (fun e=>h e.1)]
theorem tim_late {d:List Ent}{x:TxX}{t:Int}(h:goE d (chaN d x.x.s) x.t t (kyW [71] x.x.k x.x.q) x.g=0)(h2:lateP x.x (goR d (chaN d x.x.s) x.t t (kyW [71] x.x.k x.x.q) x.g).h (goR d (chaN d x.x.s) x.t t (kyW [71] x.x.k x.x.q) x.g).t=false):timE d x t=21:=by
 unfold timE
 rw [if_pos ⟨h,h2⟩]
theorem tim_ok {d:List Ent}{x:TxX}{t:Int}(h:goE d (chaN d x.x.s) x.t t (kyW [71] x.x.k x.x.q) x.g=0)(h2:lateP x.x (goR d (chaN d x.x.s) x.t t (kyW [71] x.x.k x.x.q) x.g).h (goR d (chaN d x.x.s) x.t t (kyW [71] x.x.k x.x.q) x.g).t=true):timE d x t=0:=by
 unfold timE
 rw [if_neg (fun e=>by rw [h2] at e;cases e.2),h]
theorem pQ_dok {d:List Ent}{k v:Bs}(h:DOk d):DOk (pQ d k v).1:=by
 unfold pQ
 split
 ·exact putR_dok h
 ·exact .nil
set_option maxHeartbeats 4000000 in
instance fnR18Send {d:List Ent}{x:TxX}{xs:List AV}{id:Option Value}[hx:Ents xs d]:Ans Tryz.prog GL 152 [.sl 2 xs id,txA x] (DOk d∧TxB x) (qA (sndQ d x.x)):=⟨fun hp=>by
 obtain⟨hd,hb⟩:=hp
 have b1:=hb.d
 have b2:=hb.s
 have b3:=hb.f
 have b4:=hb.g
 obtain⟨l1,l2,l3,l4⟩:=en_len d [72] x.x.s
 refine spec_enter Tryz.func152 rfl Tryz.ntmps152 rfl (fun _ hs=>?_)
 repeat' first|refine Zz ?_|intro _
 unfold sndQ sndT sndS goes chaK chaN
 dsimp only
 cases h0:enB d [72] x.x.s
 ·rw [if_pos rfl]
  repeat' first|refine Zz ?_|intro _
  refine reE ?_
  rfl
 rw [if_neg (show ¬ true=false by decide)]
 repeat' first|refine Zz ?_|intro _
 by_cases h1:(enR d [72] x.x.s).s=3
 rotate_left
 ·rw [if_pos h1,decide_eq_true h1]
  repeat' first|refine Zz ?_|intro _
  refine reE ?_
  rfl
 rw [if_neg (not_not_intro h1),decide_eq_false (not_not_intro h1)]
 repeat' first|refine Zz ?_|intro _
 unfold chkN
 cases h2:chkP ⟨nxR d x.x.s,x.x.s,(enR d [72] x.x.s).p,x.x.d,x.x.a,x.x.f,x.x.g,x.x.h,x.x.t⟩
 ·rw [if_pos rfl,if_neg (show ¬ false=true by decide),decide_eq_true (show (1:Int)≠0 by decide)]
  repeat' first|refine Zz ?_|intro _
  refine reE ?_
  rfl
 rw [if_neg (show ¬ true=false by decide),if_pos rfl,decide_eq_false (show ¬ (0:Int)≠0 by decide)]
 repeat' first|refine Zz ?_|intro _
 cases h3:enB d [75] (enR d [72] x.x.s).o
 ·rw [if_pos (.inl rfl)]
  repeat' first|refine Zz ?_|intro _
  refine reE ?_
  rfl
 repeat' first|refine Zz ?_|intro _
 cases h4:clB d (enR d [75] (enR d [72] x.x.s).o).o
 ·rw [if_pos (.inr rfl)]
  repeat' first|refine Zz ?_|intro _
  refine reE ?_
  rfl
 rw [if_neg (show ¬ (true=false∨true=false) by decide)]
 repeat' first|refine Zz ?_|intro _
 cases h5:lateP ⟨nxR d x.x.s,x.x.s,(enR d [72] x.x.s).p,x.x.d,x.x.a,x.x.f,x.x.g,x.x.h,x.x.t⟩ (latC (clR d (enR d [75] (enR d [72] x.x.s).o).o).l).h (latC (clR d (enR d [75] (enR d [72] x.x.s).o).o).l).t
 rotate_left
 ·rw [if_pos rfl]
  repeat' first|refine Zz ?_|intro _
  refine reE ?_
  rfl
 rw [if_neg (show ¬ false=true by decide)]
 have q1:DOk d∧x.x.s.length≤1000000000∧(enR d [72] x.x.s).p.length≤1000000000∧x.x.d.length≤1000000000∧x.x.f.length≤1000000000∧x.x.g.length≤1000000000:=⟨hd,by omega,by omega,by omega,by omega,by omega⟩
 obtain⟨q3,q4,q5,q8⟩:nxR d x.x.s≤1099511627776∧x.x.h≤1099511627776∧x.x.t≤1099511627776∧1≤nxR d x.x.s:=nums_le h2
 have q6:DOk (sendR d ⟨nxR d x.x.s,x.x.s,(enR d [72] x.x.s).p,x.x.d,x.x.a,x.x.f,x.x.g,x.x.h,x.x.t⟩).1:=sendR_dok hd
 have q7:DOk (pQ (sendR d ⟨nxR d x.x.s,x.x.s,(enR d [72] x.x.s).p,x.x.d,x.x.a,x.x.f,x.x.g,x.x.h,x.x.t⟩).1 (kyW [80] x.x.s (nxR d x.x.s)) (comP ⟨nxR d x.x.s,x.x.s,(enR d [72] x.x.s).p,x.x.d,x.x.a,x.x.f,x.x.g,x.x.h,x.x.t⟩)).1:=pQ_dok q6
 repeat' first|refine Zz ?_|intro _
 by_cases h6:(sendR d ⟨nxR d x.x.s,x.x.s,(enR d [72] x.x.s).p,x.x.d,x.x.a,x.x.f,x.x.g,x.x.h,x.x.t⟩).2=0
 rotate_left
 ·rw [if_pos h6,decide_eq_true h6]
  repeat' first|refine Zz ?_|intro _
  refine reE ?_
  rfl
 rw [if_neg (not_not_intro h6),decide_eq_false (not_not_intro h6)]
 repeat' first|refine Zz ?_|intro _
 by_cases h7:(pQ (sendR d ⟨nxR d x.x.s,x.x.s,(enR d [72] x.x.s).p,x.x.d,x.x.a,x.x.f,x.x.g,x.x.h,x.x.t⟩).1 (kyW [80] x.x.s (nxR d x.x.s)) (comP ⟨nxR d x.x.s,x.x.s,(enR d [72] x.x.s).p,x.x.d,x.x.a,x.x.f,x.x.g,x.x.h,x.x.t⟩)).2.e=0
 rotate_left
 ·rw [if_pos h7,decide_eq_true h7]
  repeat' first|refine Zz ?_|intro _
  refine reE ?_
  rfl
 rw [if_neg (not_not_intro h7),decide_eq_false (not_not_intro h7)]
 repeat' first|refine Zz ?_|intro _
 by_cases h8:(pQ (pQ (sendR d ⟨nxR d x.x.s,x.x.s,(enR d [72] x.x.s).p,x.x.d,x.x.a,x.x.f,x.x.g,x.x.h,x.x.t⟩).1 (kyW [80] x.x.s (nxR d x.x.s)) (comP ⟨nxR d x.x.s,x.x.s,(enR d [72] x.x.s).p,x.x.d,x.x.a,x.x.f,x.x.g,x.x.h,x.x.t⟩)).1 (kyO [78] x.x.s) (tlvI 110 (nxR d x.x.s + 1))).2.e=0
 rotate_left
 ·rw [if_pos h8,decide_eq_true h8]
  repeat' first|refine Zz ?_|intro _
  refine reE ?_
  rfl
 rw [if_neg (not_not_intro h8),decide_eq_false (not_not_intro h8)]
 repeat' first|refine Zz ?_|intro _
 refine reE ?_
 rfl⟩
set_option maxHeartbeats 4000000 in
instance fnR18Recv {d:List Ent}{h t:Int}{x:TxX}{xs:List AV}{id:Option Value}[hx:Ents xs d]:Ans Tryz.prog GL 153 [.sl 2 xs id,txA x,int h,int t] (DOk d∧TxB x) (qA (rcvQ d x h t)):=⟨fun hp=>by
 obtain⟨hd,hb⟩:=hp
 have b1:=hb.d
 have b2:=hb.s
 have b3:=hb.f
 have b4:=hb.g
 have b5:=hb.k
 have b6:DOk d∧x.f.m≤9223372036854775807:=⟨hd,hb.fm⟩
 obtain⟨l1,l2,l3,l4⟩:=en_len d [72] x.x.k
 have h':=hx.out
 subst h'
 refine spec_enter Tryz.func153 rfl Tryz.ntmps153 rfl (fun _ hs=>?_)
 repeat' first|refine Zz ?_|intro _
 unfold rcvQ rcvP chkN chaK chaN
 cases h2:chkP x.x
 ·rw [if_pos rfl,if_neg (show ¬ false=true by decide),decide_eq_true (show (1:Int)≠0 by decide)]
  repeat' first|refine Zz ?_|intro _
  refine reE ?_
  rfl
 rw [if_neg (show ¬ true=false by decide),if_pos rfl,decide_eq_false (show ¬ (0:Int)≠0 by decide)]
 obtain⟨q3,q4,q5,q8⟩:=nums_le h2
 repeat' first|refine Zz ?_|intro _
 cases h0:enB d [72] x.x.k
 ·rw [if_pos rfl]
  repeat' first|refine Zz ?_|intro _
  refine reE ?_
  rfl
 rw [if_neg (show ¬ true=false by decide)]
 repeat' first|refine Zz ?_|intro _
 by_cases h1:(enR d [72] x.x.k).s=3
 rotate_left
 ·rw [if_pos (.inl h1),decide_eq_true h1]
  repeat' first|refine Zz ?_|intro _
  refine reE ?_
  rfl
 rw [decide_eq_false (not_not_intro h1)]
 repeat' first|refine Zz ?_|intro _
 by_cases h1':(enR d [72] x.x.k).p=x.x.s
 rotate_left
 ·rw [if_pos (.inr h1'),decide_eq_true h1']
  repeat' first|refine Zz ?_|intro _
  refine reE ?_
  rfl
 rw [if_neg (show ¬ ((enR d [72] x.x.k).s≠3∨(enR d [72] x.x.k).p≠x.x.s) by simp [h1,h1']),decide_eq_false (not_not_intro h1')]
 repeat' first|refine Zz ?_|intro _
 cases h3:lateP x.x h t
 rotate_left
 ·rw [if_pos rfl]
  repeat' first|refine Zz ?_|intro _
  refine reE ?_
  rfl
 rw [if_neg (show ¬ false=true by decide)]
 repeat' first|refine Zz ?_|intro _
 cases h4:(gO d (kyW [71] x.x.k x.x.q)).isSome
 rotate_left
 ·rw [if_pos rfl]
  repeat' first|refine Zz ?_|intro _
  refine reE ?_
  rfl
 rw [if_neg (show ¬ false=true by decide)]
 repeat' first|refine Zz ?_|intro _
 cases h5:enB d [75] (enR d [72] x.x.k).o
 ·rw [if_pos rfl]
  repeat' first|refine Zz ?_|intro _
  refine reE ?_
  rfl
 rw [if_neg (show ¬ true=false by decide)]
 repeat' first|refine Zz ?_|intro _
 by_cases h6:prE d (enR d [75] (enR d [72] x.x.k).o).o x.t t (kyW [80] x.x.s x.x.q) (comP x.x) x.f=0
 rotate_left
 ·rw [if_pos h6,decide_eq_true h6]
  repeat' first|refine Zz ?_|intro _
  refine reE ?_
  rfl
 rw [if_neg (not_not_intro h6),decide_eq_false (not_not_intro h6)]
 have p5:DOk d∧x.x.s.length≤400000000∧x.x.k.length≤400000000∧x.x.d.length≤400000000∧x.x.f.length≤400000000∧x.x.g.length≤400000000:=⟨hd,b2,b5,b1,b3,b4⟩
 have q6:DOk (recvR d x.x).1:=recvR_dok hd
 have q7:=recvR_e (d:=d) (x:=x.x)
 unfold ackR
 repeat' first|refine Zz ?_|intro _
 by_cases h7:(recvR d x.x).2=0
 ·rw [if_pos h7,if_pos h7,decide_eq_false (not_not_intro h7)]
  repeat' first|refine Zz ?_|intro _
  refine reE ?_
  rfl
 ·rw [if_neg h7,if_neg h7,decide_eq_true h7]
  have q9:(failB (recvR d x.x).2).length≤1000000000:=by
   unfold failB
   exact (by decide:2≤1000000000)
  repeat' first|refine Zz ?_|intro _
  refine reE ?_
  rfl⟩
set_option maxHeartbeats 4000000 in
instance fnR18Ends {d:List Ent}{t:Int}{x:TxX}{xs:List AV}{id:Option Value}[hx:Ents xs d]:Ans Tryz.prog GL 154 [.sl 2 xs id,txA x,int t] (DOk d∧TxB x) (qA (endQ d x t)):=⟨fun hp=>by
 obtain⟨hd,hb⟩:=hp
 have b1:=hb.d
 have b2:=hb.s
 have b3:=hb.f
 have b4:=hb.g
 have b5:=hb.k
 have b7:=hb.a
 have b6:DOk d∧x.f.m≤9223372036854775807:=⟨hd,hb.fm⟩
 have b8:DOk d∧x.g.a.m≤9223372036854775807∧x.g.b.m≤9223372036854775807:=⟨hd,hb.gm⟩
 obtain⟨l1,l2,l3,l4⟩:=en_len d [72] x.x.s
 have h':=hx.out
 subst h'
 refine spec_enter Tryz.func154 rfl Tryz.ntmps154 rfl (fun _ hs=>?_)
 repeat' first|refine Zz ?_|intro _
 unfold endQ endP chkN
 cases h2:chkP x.x
 ·rw [if_pos (.inl rfl),if_neg (show ¬ false=true by decide),decide_eq_true (show (1:Int)≠0 by decide)]
  repeat' first|refine Zz ?_|intro _
  refine reE ?_
  rfl
 rw [if_pos rfl,decide_eq_false (show ¬ (0:Int)≠0 by decide)]
 obtain⟨q3,q4,q5,q8⟩:=nums_le h2
 have p5:DOk d∧x.x.s.length≤1000000000∧x.x.k.length≤1000000000∧x.x.d.length≤1000000000∧x.x.f.length≤1000000000∧x.x.g.length≤1000000000:=⟨hd,by omega,by omega,by omega,by omega,by omega⟩
 have q6:DOk (backR d x.x).1:=backR_dok hd
 repeat' first|refine Zz ?_|intro _
 by_cases hk:x.k=15
 ·rw [decide_eq_true hk]
  repeat' first|refine Zz ?_|intro _
  cases h10:ackIs x.a
  ·rw [if_pos (.inr ⟨hk,rfl⟩)]
   repeat' first|refine Zz ?_|intro _
   refine reE ?_
   rfl
  rw [if_neg (show ¬ (true=false∨(x.k=15∧true=false)) by simp),edB,edE,if_pos hk,if_pos hk]
  unfold chaK chaN
  repeat' first|refine Zz ?_|intro _
  cases h0:enB d [72] x.x.s
  ·rw [if_pos rfl]
   repeat' first|refine Zz ?_|intro _
   refine reE ?_
   rfl
  rw [if_neg (show ¬ true=false by decide)]
  repeat' first|refine Zz ?_|intro _
  by_cases h1:(enR d [72] x.x.s).s=3
  rotate_left
  ·rw [if_pos (.inl h1),decide_eq_true h1]
   repeat' first|refine Zz ?_|intro _
   refine reE ?_
   rfl
  rw [decide_eq_false (not_not_intro h1)]
  repeat' first|refine Zz ?_|intro _
  by_cases h1':(enR d [72] x.x.s).p=x.x.k
  rotate_left
  ·rw [if_pos (.inr h1'),decide_eq_true h1']
   repeat' first|refine Zz ?_|intro _
   refine reE ?_
   rfl
  rw [if_neg (show ¬ ((enR d [72] x.x.s).s≠3∨(enR d [72] x.x.s).p≠x.x.k) by simp [h1,h1']),decide_eq_false (not_not_intro h1')]
  repeat' first|refine Zz ?_|intro _
  cases hg:gO d (kyW [80] x.x.s x.x.q) with
  | none=>
   rw [if_pos (show (none:Option Bs)≠some (comP x.x) from fun e=>by cases e)]
   repeat' first|refine Zz ?_|intro _
   refine reE ?_
   rfl
  | some v=>
  have hv:valE d (kyW [80] x.x.s x.x.q)=v:=by
   unfold valE
   rw [hg]
   rfl
  rw [hv]
  repeat' first|refine Zz ?_|intro _
  by_cases h3:v=comP x.x
  rotate_left
  ·rw [if_pos (show some v≠some (comP x.x) from fun e=>h3 (Option.some.inj e)),decide_eq_true h3]
   repeat' first|refine Zz ?_|intro _
   refine reE ?_
   rfl
  rw [if_neg (show ¬ some v≠some (comP x.x) by rw [h3];simp),decide_eq_false (not_not_intro h3)]
  repeat' first|refine Zz ?_|intro _
  cases h5:enB d [75] (enR d [72] x.x.s).o
  ·rw [if_pos rfl]
   repeat' first|refine Zz ?_|intro _
   refine reE ?_
   rfl
  rw [if_neg (show ¬ true=false by decide)]
  repeat' first|refine Zz ?_|intro _
  by_cases h6:prE d (enR d [75] (enR d [72] x.x.s).o).o x.t t (kyW [71] x.x.k x.x.q) (rcpB x.a) x.f=0
  rotate_left
  ·rw [if_pos h6,decide_eq_true h6]
   repeat' first|refine Zz ?_|intro _
   refine reE ?_
   rfl
  rw [if_neg (not_not_intro h6),decide_eq_false (not_not_intro h6)]
  repeat' first|refine Zz ?_|intro _
  cases h8:decide (ackV x.a≠0)
  ·rw [if_neg (fun e=>by cases e.1),if_neg (show ¬ false=true by decide)]
   repeat' first|refine Zz ?_|intro _
   refine reE ?_
   rfl
  by_cases h9:(backR d x.x).2=0
  rotate_left
  ·rw [if_pos ⟨rfl,h9⟩]
   repeat' first|refine Zz ?_|intro _
   rw [decide_eq_true h9]
   repeat' first|refine Zz ?_|intro _
   refine reE ?_
   rfl
  rw [if_neg (fun e=>e.2 h9),if_pos rfl]
  repeat' first|refine Zz ?_|intro _
  rw [decide_eq_false (not_not_intro h9)]
  repeat' first|refine Zz ?_|intro _
  refine reE ?_
  rfl
 ·rw [decide_eq_false hk]
  repeat' first|refine Zz ?_|intro _
  rw [if_neg (show ¬ (true=false∨(x.k=15∧ackIs x.a=false)) by simp [hk]),edB,edE,if_neg hk,if_neg hk]
  unfold chaK
  repeat' first|refine Zz ?_|intro _
  cases h0:enB d [72] x.x.s
  ·rw [if_pos rfl]
   repeat' first|refine Zz ?_|intro _
   refine reE ?_
   rfl
  rw [if_neg (show ¬ true=false by decide)]
  repeat' first|refine Zz ?_|intro _
  by_cases h1:(enR d [72] x.x.s).s=3
  rotate_left
  ·rw [if_pos (.inl h1),decide_eq_true h1]
   repeat' first|refine Zz ?_|intro _
   refine reE ?_
   rfl
  rw [decide_eq_false (not_not_intro h1)]
  repeat' first|refine Zz ?_|intro _
  by_cases h1':(enR d [72] x.x.s).p=x.x.k
  rotate_left
  ·rw [if_pos (.inr h1'),decide_eq_true h1']
   repeat' first|refine Zz ?_|intro _
   refine reE ?_
   rfl
  rw [if_neg (show ¬ ((enR d [72] x.x.s).s≠3∨(enR d [72] x.x.s).p≠x.x.k) by simp [h1,h1']),decide_eq_false (not_not_intro h1')]
  repeat' first|refine Zz ?_|intro _
  cases hg:gO d (kyW [80] x.x.s x.x.q) with
  | none=>
   rw [if_pos (show (none:Option Bs)≠some (comP x.x) from fun e=>by cases e)]
   repeat' first|refine Zz ?_|intro _
   refine reE ?_
   rfl
  | some v=>
  have hv:valE d (kyW [80] x.x.s x.x.q)=v:=by
   unfold valE
   rw [hg]
   rfl
  rw [hv]
  repeat' first|refine Zz ?_|intro _
  by_cases h3:v=comP x.x
  rotate_left
  ·rw [if_pos (show some v≠some (comP x.x) from fun e=>h3 (Option.some.inj e)),decide_eq_true h3]
   repeat' first|refine Zz ?_|intro _
   refine reE ?_
   rfl
  rw [if_neg (show ¬ some v≠some (comP x.x) by rw [h3];simp),decide_eq_false (not_not_intro h3)]
  repeat' first|refine Zz ?_|intro _
  cases h5:enB d [75] (enR d [72] x.x.s).o
  ·rw [if_pos rfl]
   repeat' first|refine Zz ?_|intro _
   refine reE ?_
   rfl
  rw [if_neg (show ¬ true=false by decide)]
  repeat' first|refine Zz ?_|intro _
  by_cases h6:goE d (enR d [75] (enR d [72] x.x.s).o).o x.t t (kyW [71] x.x.k x.x.q) x.g=0
  rotate_left
  ·have h6':goE d (chaN d x.x.s) x.t t (kyW [71] x.x.k x.x.q) x.g≠0:=h6
   rw [tim_no h6',if_pos h6',decide_eq_true h6]
   repeat' first|refine Zz ?_|intro _
   refine reE ?_
   rfl
  rw [decide_eq_false (not_not_intro h6)]
  repeat' first|refine Zz ?_|intro _
  cases h8:lateP x.x (goR d (enR d [75] (enR d [72] x.x.s).o).o x.t t (kyW [71] x.x.k x.x.q) x.g).h (goR d (enR d [75] (enR d [72] x.x.s).o).o x.t t (kyW [71] x.x.k x.x.q) x.g).t
  ·rw [tim_late h6 h8,if_pos (show (21:Int)≠0 by decide)]
   repeat' first|refine Zz ?_|intro _
   refine reE ?_
   rfl
  rw [tim_ok h6 h8,if_neg (show ¬ (0:Int)≠0 by decide)]
  repeat' first|refine Zz ?_|intro _
  by_cases h9:(backR d x.x).2=0
  rotate_left
  ·rw [if_pos ⟨trivial,h9⟩]
   repeat' first|refine Zz ?_|intro _
   rw [decide_eq_true h9]
   repeat' first|refine Zz ?_|intro _
   refine reE ?_
   rfl
  rw [if_neg (fun e=>e.2 h9),if_pos trivial]
  repeat' first|refine Zz ?_|intro _
  rw [decide_eq_false (not_not_intro h9)]
  repeat' first|refine Zz ?_|intro _
  refine reE ?_
  rfl⟩
end Go.Proofs.YtppngnhckahbnaaGreatDoor

namespace Go.Proofs.YtppngnhckahbnaaGreatDoor
open Go Go.RowKit Tw Av
attribute [local irreducible] clB enB lateP coinQ cliQ begK begH opnK opnH sndQ rcvQ endQ
set_option maxHeartbeats 4000000 in
instance fnR18do {d:List Ent}{h t:Int}{x:TxX}{xs:List AV}{id:Option Value}[hx:Ents xs d]:Ans Tryz.prog GL 62 [.sl 2 xs id,txA x,int h,int t] (DOk d∧TxB x) (qA (doQ d x h t)):=⟨fun hp=>by
 refine spec_enter Tryz.func62 rfl Tryz.ntmps62 rfl (fun _ hs=>?_)
 repeat' first|refine Zz ?_|intro _
 unfold doQ
 by_cases h1:x.k=1
 ·rw [if_pos (.inl h1),decide_eq_true h1]
  repeat' first|refine Zz ?_|intro _
  refine reE ?_
  first|rfl|(rw [decide_eq_true (by assumption)];rfl)|(rw [decide_eq_false (by assumption)];rfl)
 rw [decide_eq_false h1]
 repeat' first|refine Zz ?_|intro _
 by_cases h2:x.k=2
 ·rw [if_pos (.inr h2),decide_eq_true h2]
  repeat' first|refine Zz ?_|intro _
  refine reE ?_
  first|rfl|(rw [decide_eq_true (by assumption)];rfl)|(rw [decide_eq_false (by assumption)];rfl)
 rw [decide_eq_false h2]
 repeat' first|refine Zz ?_|intro _
 rw [if_neg (show ¬ (x.k=1∨x.k=2) by omega)]
 by_cases h3:x.k=3
 ·rw [if_pos (.inl h3),decide_eq_true h3]
  repeat' first|refine Zz ?_|intro _
  refine reE ?_
  first|rfl|(rw [decide_eq_true (by assumption)];rfl)|(rw [decide_eq_false (by assumption)];rfl)
 rw [decide_eq_false h3]
 repeat' first|refine Zz ?_|intro _
 by_cases h4:x.k=4
 ·rw [if_pos (.inr h4),decide_eq_true h4]
  repeat' first|refine Zz ?_|intro _
  refine reE ?_
  first|rfl|(rw [decide_eq_true (by assumption)];rfl)|(rw [decide_eq_false (by assumption)];rfl)
 rw [decide_eq_false h4]
 repeat' first|refine Zz ?_|intro _
 rw [if_neg (show ¬ (x.k=3∨x.k=4) by omega)]
 by_cases h5:x.k=5
 ·rw [if_pos (.inl h5),decide_eq_true h5]
  repeat' first|refine Zz ?_|intro _
  refine reE ?_
  first|rfl|(rw [decide_eq_true (by assumption)];rfl)|(rw [decide_eq_false (by assumption)];rfl)
 rw [decide_eq_false h5]
 repeat' first|refine Zz ?_|intro _
 by_cases h6:x.k=6
 ·rw [if_pos (.inr h6),decide_eq_true h6]
  repeat' first|refine Zz ?_|intro _
  refine reE ?_
  first|rfl|(rw [decide_eq_true (by assumption)];rfl)|(rw [decide_eq_false (by assumption)];rfl)
 rw [decide_eq_false h6]
 repeat' first|refine Zz ?_|intro _
 rw [if_neg (show ¬ (x.k=5∨x.k=6) by omega)]
 by_cases h9:x.k=9
 ·rw [if_pos (.inl h9),decide_eq_true h9]
  repeat' first|refine Zz ?_|intro _
  refine reE ?_
  first|rfl|(rw [decide_eq_true (by assumption)];rfl)|(rw [decide_eq_false (by assumption)];rfl)
 rw [decide_eq_false h9]
 repeat' first|refine Zz ?_|intro _
 by_cases h10:x.k=10
 ·rw [if_pos (.inr h10),decide_eq_true h10]
  repeat' first|refine Zz ?_|intro _
  refine reE ?_
  first|rfl|(rw [decide_eq_true (by assumption)];rfl)|(rw [decide_eq_false (by assumption)];rfl)
 rw [decide_eq_false h10]
 repeat' first|refine Zz ?_|intro _
 rw [if_neg (show ¬ (x.k=9∨x.k=10) by omega)]
 by_cases h7:x.k=7
 ·rw [if_pos (.inl h7),decide_eq_true h7]
  repeat' first|refine Zz ?_|intro _
  refine reE ?_
  first|rfl|(rw [decide_eq_true (by assumption)];rfl)|(rw [decide_eq_false (by assumption)];rfl)
 rw [decide_eq_false h7]
 repeat' first|refine Zz ?_|intro _
 by_cases h8:x.k=8
 ·rw [if_pos (.inr h8),decide_eq_true h8]
  repeat' first|refine Zz ?_|intro _
  refine reE ?_
  first|rfl|(rw [decide_eq_true (by assumption)];rfl)|(rw [decide_eq_false (by assumption)];rfl)
 rw [decide_eq_false h8]
 repeat' first|refine Zz ?_|intro _
 rw [if_neg (show ¬ (x.k=7∨x.k=8) by omega)]
 by_cases h11:x.k=11
 ·rw [if_pos (.inl h11),decide_eq_true h11]
  repeat' first|refine Zz ?_|intro _
  refine reE ?_
  first|rfl|(rw [decide_eq_true (by assumption)];rfl)|(rw [decide_eq_false (by assumption)];rfl)
 rw [decide_eq_false h11]
 repeat' first|refine Zz ?_|intro _
 by_cases h12:x.k=12
 ·rw [if_pos (.inr h12),decide_eq_true h12]
  repeat' first|refine Zz ?_|intro _
  refine reE ?_
  first|rfl|(rw [decide_eq_true (by assumption)];rfl)|(rw [decide_eq_false (by assumption)];rfl)
 rw [decide_eq_false h12]
 repeat' first|refine Zz ?_|intro _
 rw [if_neg (show ¬ (x.k=11∨x.k=12) by omega)]
 by_cases h13:x.k=13
 ·rw [if_pos h13,decide_eq_true h13]
  repeat' first|refine Zz ?_|intro _
  refine reE ?_
  first|rfl|(rw [decide_eq_true (by assumption)];rfl)|(rw [decide_eq_false (by assumption)];rfl)
 rw [if_neg h13,decide_eq_false h13]
 repeat' first|refine Zz ?_|intro _
 by_cases h14:x.k=14
 ·rw [if_pos h14,decide_eq_true h14]
  repeat' first|refine Zz ?_|intro _
  refine reE ?_
  first|rfl|(rw [decide_eq_true (by assumption)];rfl)|(rw [decide_eq_false (by assumption)];rfl)
 rw [if_neg h14,decide_eq_false h14]
 repeat' first|refine Zz ?_|intro _
 by_cases h15:x.k=15
 ·rw [if_pos (.inl h15),decide_eq_true h15]
  repeat' first|refine Zz ?_|intro _
  refine reE ?_
  first|rfl|(rw [decide_eq_true (by assumption)];rfl)|(rw [decide_eq_false (by assumption)];rfl)
 rw [decide_eq_false h15]
 repeat' first|refine Zz ?_|intro _
 by_cases h16:x.k=16
 ·rw [if_pos (.inr h16),decide_eq_true h16]
  repeat' first|refine Zz ?_|intro _
  refine reE ?_
  first|rfl|(rw [decide_eq_true (by assumption)];rfl)|(rw [decide_eq_false (by assumption)];rfl)
 rw [decide_eq_false h16]
 repeat' first|refine Zz ?_|intro _
 rw [if_neg (show ¬ (x.k=15∨x.k=16) by omega)]
 repeat' first|refine Zz ?_|intro _
 refine reE ?_
 rfl⟩
attribute [local irreducible] doQ
instance fnR18Do {d:List Ent}{h t:Int}{x:TxX}{xs:List AV}{id:Option Value}[hx:Ents xs d]:Ans Tryz.prog GL 16 [.sl 2 xs id,txA x,int h,int t] (DOk d∧TxB x) (.tup [dSl (doR d x h t).1,repA (doR d x h t).2]):=⟨fun hp=>by
 have h':=hx.out
 subst h'
 refine spec_enter Tryz.func16 rfl Tryz.ntmps16 rfl (fun _ hs=>?_)
 refine ac_as 0 Imp.sl ?_
 repeat' first|refine Zz ?_|intro _
 rw [← fin_do]
 unfold finQ
 by_cases h:(doQ d x h t).2.e=0
 ·rw [if_pos h,decide_eq_false (not_not_intro h)]
  repeat' first|refine Zz ?_|intro _
  refine reE ?_
  rfl
 ·rw [if_neg h,decide_eq_true h]
  repeat' first|refine Zz ?_|intro _
  refine reE ?_
  rfl⟩
end Go.Proofs.YtppngnhckahbnaaGreatDoor

namespace Go.Proofs.YtppngnhckahbnaaGreatDoor
open Go Go.RowKit Tw Av
def xF:TxX:=⟨1,[],[],[],[],[],0,⟨[],0,0,zeroH⟩,zeroH,⟨0,[],[],[120],⟨5,by decide⟩,[],[97],0,0⟩,[],0,⟨0,0,[]⟩,⟨0,[],[],⟨0,0,[]⟩,⟨0,0,[]⟩⟩⟩
def xS:TxX:=⟨13,[],[],[],[],[],0,⟨[],0,0,zeroH⟩,zeroH,⟨0,[],[],[120],⟨5,by decide⟩,[],[97],0,0⟩,[],0,⟨0,0,[]⟩,⟨0,[],[],⟨0,0,[]⟩,⟨0,0,[]⟩⟩⟩
def dF:List Ent:=[⟨balK [97] [120],beB 5⟩,⟨totK [120],beB 5⟩]
theorem do_F:doR [] xF 1 1=(dF,rep0):=by kernel_rfl
theorem dF_ok:DOk dF:=⟨by simp [Srt,dF];decide,by intro x hx;simp [dF] at hx;rcases hx with rfl|rfl <;> decide,by decide⟩
theorem do_S:(doR dF xS 1 1).2=repE 12:=by kernel_rfl
theorem bal_F:(getW dF (balK [97] [120]))=⟨5,by decide⟩:=by kernel_rfl
theorem xF_b:TxB xF:=⟨by decide,by decide,by decide,by decide,by decide,by decide,by decide,by decide,by decide,by decide,by decide,by decide,by decide,by decide,by decide⟩
theorem xS_b:TxB xS:=⟨by decide,by decide,by decide,by decide,by decide,by decide,by decide,by decide,by decide,by decide,by decide,by decide,by decide,by decide,by decide⟩
attribute [local irreducible] doR
set_option maxRecDepth 100000 in
set_option maxHeartbeats 2000000 in
instance fnAwake18:Ans Tryz.prog GL 11 [] True (boo true):=⟨fun _=>by
 refine spec_enter Tryz.func11 rfl Tryz.ntmps11 rfl (fun _ hs=>?_)
 repeat' first|refine Zz ?_|intro _
 refine al_as 13 (v':=dA []) (show Imp (.agg 1 [.lit (.slice none 0 0)]) (.agg 1 [.sl 2 [] none]) from ImpR.imp) ?_
 refine al_as 14 (v':=txA xF) ?_ ?_
 ·show Imp _ (.agg 100 [int 1,str [],str [],str [],str [],str [],int 0,.agg 35 [str [],int 0,int 0,hA zeroH],hA zeroH,.agg 12 [int 0,str [],str [],.agg 7 [str [120],.agg 4 [.lit (.int .u64 5),.lit (.int .u64 0),.lit (.int .u64 0),.lit (.int .u64 0)],str [],str [97]],int 0,int 0],str [],int 0,.agg 3 [int 0,int 0,.sl 32 [] none],.agg 9 [int 0,.sl 2 [] none,.sl 2 [] none,.agg 3 [int 0,int 0,.sl 32 [] none],.agg 3 [int 0,int 0,.sl 32 [] none]]])
  exact ImpR.imp
 have hp:DOk []∧TxB xF:=⟨.nil,xF_b⟩
 refine al_callI [.agg 1 [.sl 2 (([]:List Ent).map entA) none],txA xF,int 1,int 1] (hp:=hp) ?_
 rw [do_F]
 repeat' first|refine Zz ?_|intro _
 refine al_as 21 (v':=txA xS) ?_ ?_
 ·show Imp _ (.agg 100 [int 13,str [],str [],str [],str [],str [],int 0,.agg 35 [str [],int 0,int 0,hA zeroH],hA zeroH,.agg 12 [int 0,str [],str [],.agg 7 [str [120],.agg 4 [.lit (.int .u64 5),.lit (.int .u64 0),.lit (.int .u64 0),.lit (.int .u64 0)],str [],str [97]],int 0,int 0],str [],int 0,.agg 3 [int 0,int 0,.sl 32 [] none],.agg 9 [int 0,.sl 2 [] none,.sl 2 [] none,.agg 3 [int 0,int 0,.sl 32 [] none],.agg 3 [int 0,int 0,.sl 32 [] none]]])
  exact ImpR.imp
 have hp2:DOk dF∧TxB xS:=⟨dF_ok,xS_b⟩
 have hp3:=dF_ok
 have hp4:dF.length=2:=rfl
 refine al_callI [.agg 1 [.sl 2 (dF.map entA) none],txA xS,int 1,int 1] (hp:=hp2) ?_
 rw [do_S]
 repeat' first|refine Zz ?_|intro _
 rw [bal_F]
 repeat' first|refine Zz ?_|intro _
 refine reE ?_
 rfl⟩
end Go.Proofs.YtppngnhckahbnaaGreatDoor

namespace Go.Proofs.YtppngnhckahbnaaGreatDoor
open Go Go.RowKit Tw Av
instance fnShort18 {s:Bs}{n:Int}:Ans Tryz.prog GL 20 [str s,int n] (0≤n) (str (s.take n.toNat)):=⟨fun hn=>by
 refine spec_enter Tryz.func20 rfl Tryz.ntmps20 rfl (fun _ hs=>?_)
 repeat' first|refine Vz ?_|intro _
 refine ac_cond (fun h1=>?_) (fun h1=>?_)
 ·repeat' first|refine Vz ?_|intro _
  refine al_sliceS 0 n.toNat ?_
  repeat' first|refine Vz ?_|intro _
  refine reE ?_
  rfl
 ·repeat' first|refine Vz ?_|intro _
  refine reE ?_
  rw [List.take_of_length_le (by omega)]
  rfl⟩
def cut40 (x:Ent):Ent:=⟨x.key.take 40,x.val.take 40⟩
def oneE (l:List Ent):List Ent:=(l.take 1).map cut40
def pathP (p:Prf):Prf:=⟨p.a,p.m,p.p.take 6⟩
instance fnPath18 {a m:Int}{p:List Hsh}{xs:List AV}{id:Option Value}[hx:Hshs xs p]:Ans Tryz.prog GL 83 [.agg 3 [int a,int m,.sl 32 xs id]] True (prfA (pathP ⟨a,m,p⟩)):=⟨fun _=>by
 have h:=hx.out
 subst h
 have hm:(p.map hA).length=p.length:=List.length_map _
 refine spec_enter Tryz.func83 rfl Tryz.ntmps83 rfl (fun _ hs=>?_)
 repeat' first|refine Vz ?_|intro _
 refine ac_cond (fun h1=>?_) (fun h1=>?_)
 ·repeat' first|refine Vz ?_|intro _
  refine al_sliceD 0 6 ?_
  repeat' first|refine Vz ?_|intro _
  refine reE ?_
  simp [outOf,pathP,List.map_take]
 ·repeat' first|refine Vz ?_|intro _
  refine reI ?_
  have e:pathP ⟨a,m,p⟩=⟨a,m,p⟩:=by
   unfold pathP
   rw [List.take_of_length_le (show p.length≤6 by rw [hm] at h1;omega)]
  rw [e]
  show Imp (.agg 3 [int a,int m,.sl 32 (p.map hA) id]) (.agg 3 [int a,int m,.sl 32 (p.map hA) none])
  exact ImpR.imp⟩
instance fnOne18 {l:List Ent}{xs:List AV}{id:Option Value}[hx:Ents xs l]:Ans Tryz.prog GL 84 [.sl 2 xs id] True (.sl 2 ((oneE l).map entA) none):=⟨fun _=>by
 have h:=hx.out
 subst h
 refine spec_enter Tryz.func84 rfl Tryz.ntmps84 rfl (fun _ hs=>?_)
 rcases l with _|⟨e,l⟩
 ·have hm:(([]:List Ent).map entA).length=0:=rfl
  repeat' first|refine Zz ?_|intro _
  refine reI ?_
  exact Imp.nilN
 ·have hm:((e::l).map entA).length=l.length + 1:=by simp
  repeat' first|refine Zz ?_|intro _
  refine reE ?_
  rfl⟩
def smallX (x:TxX):TxX:=⟨x.k,x.i.take 40,x.o.take 40,x.p.take 40,x.q.take 40,x.y.take 40,x.e,⟨x.h.c.take 40,x.h.h,x.h.t,x.h.r⟩,x.m,⟨x.x.q,x.x.s.take 40,x.x.k.take 40,x.x.d.take 40,x.x.a,x.x.f.take 40,x.x.g.take 40,x.x.h,x.x.t⟩,x.a.take 40,x.t,pathP x.f,⟨x.g.n,oneE x.g.l,oneE x.g.r,pathP x.g.a,pathP x.g.b⟩⟩
set_option maxRecDepth 100000 in
set_option maxHeartbeats 4000000 in
instance fnSmall18 {x:TxX}:Ans Tryz.prog GL 35 [txA x] True (txA (smallX x)):=⟨fun _=>by
 refine spec_enter Tryz.func35 rfl Tryz.ntmps35 rfl (fun _ hs=>?_)
 repeat' first|refine Zz ?_|intro _
 refine reE ?_
 rfl⟩
end Go.Proofs.YtppngnhckahbnaaGreatDoor

namespace Go.Proofs.YtppngnhckahbnaaGreatDoor
open Go Go.RowKit Tw Av
theorem tellR_dok {d:List Ent}{r:List Ent × Int}{p:Rep}(h:DOk d)(hr:DOk r.1):DOk (tellR d r p).1:=by
 unfold tellR failR
 split
 ·exact hr
 ·exact h
theorem putsR_dok {d:List Ent}{k v:Bs}(h:DOk d):DOk (putsR d k v).1:=tellR_dok h (putR_dok h)
theorem begR_dok {d:List Ent}{x:TxX}{i k:Bs}{b:Bool}{t:Int}(h:DOk d):DOk (begR d x i k b t).1:=by
 unfold begR
 repeat' (first|exact h|exact putsR_dok h|split)
theorem joiR_dok {d:List Ent}{x:TxX}{own:EndX}{i k:Bs}{b:Bool}{t:Int}(h:DOk d):DOk (joiR d x own i k b t).1:=by
 cases b
 ·rw [joi_f]
  unfold joiQ
  split
  ·exact h
  ·split
   ·exact h
   ·exact putsR_dok h
 ·rw [joi_t]
  unfold joiQ
  split
  ·exact h
  ·split
   ·exact h
   ·exact putsR_dok h
theorem endR_dok {d:List Ent}{x:Pkt}{b:Bool}{e:Int}(h:DOk d):DOk (endR d x b e).1:=by
 unfold endR
 split
 ·exact h
 split
 ·exact h
 split
 ·exact h
 split
 ·exact h
 refine DOk.drp ?_ _
 split
 ·exact backR_dok h
 ·exact h
section
variable {d:List Ent} {x:TxX} {h t:Int} (hd:DOk d)
include hd
theorem fundR_dok:DOk (fundR d x.x).1:=by
 unfold fundR
 split
 ·exact hd
 ·exact tellR_dok hd (mintR_dok hd)
theorem movR_dok:DOk (movR d x.x).1:=by
 unfold movR
 split
 ·exact hd
 ·exact tellR_dok hd (moveR_dok hd)
theorem creR_dok:DOk (creR d x).1:=by
 unfold creR
 split
 ·exact hd
 ·split
  ·exact hd
  ·split
   ·exact hd
   ·exact putsR_dok hd
theorem updR_dok:DOk (updR d x t).1:=by
 unfold updR
 split
 ·exact hd
 ·split
  ·exact hd
  ·exact putsR_dok hd
theorem conR_dok:DOk (conR d x t).1:=by
 unfold conR
 split
 ·exact hd
 ·split
  ·exact hd
  ·split
   ·exact hd
   ·exact begR_dok hd
theorem codR_dok:DOk (codR d x t).1:=by
 unfold codR
 split
 ·exact hd
 ·exact joiR_dok hd
theorem opnR_dok:DOk (opnR d x t).1:=by
 unfold opnR
 split
 ·exact hd
 ·split
  ·exact hd
  ·split
   ·exact hd
   ·split
    ·exact hd
    ·exact begR_dok hd
theorem opdR_dok:DOk (opdR d x t).1:=by
 unfold opdR
 split
 ·exact hd
 ·exact joiR_dok hd
theorem sndR_dok:DOk (sndR d x.x).1:=by
 unfold sndR
 split
 ·exact hd
 ·split
  ·exact hd
  ·split
   ·exact hd
   ·split
    ·exact hd
    ·exact tellR_dok hd (thenR_dok hd (fun d h=>sendR_dok h) (fun d h=>thenR_dok h (fun d h=>putR_dok h) (fun d h=>putR_dok h)))
theorem rcvR_dok:DOk (rcvR d x h t).1:=by
 have h1:DOk (if (recvR d x.x).2=0 then (recvR d x.x).1 else d):=by
  split
  ·exact recvR_dok hd
  ·exact hd
 unfold rcvR
 generalize (if (recvR d x.x).2=0 then (recvR d x.x).1 else d)=D at *
 split
 ·exact hd
 split
 ·exact hd
 split
 ·exact hd
 split
 ·exact hd
 split
 ·exact hd
 split
 ·exact hd
 exact tellR_dok hd (putR_dok h1)
theorem acksR_dok:DOk (acksR d x t).1:=by
 unfold acksR
 split
 ·exact hd
 ·exact endR_dok hd
theorem timR_dok:DOk (timR d x t).1:=by
 unfold timR
 split
 ·exact hd
 ·exact endR_dok hd
theorem doR_dok:DOk (doR d x h t).1:=by
 by_cases hk:1≤x.k∧x.k≤16
 rotate_left
 ·rw [doN hk]
  exact hd
 rcases kinds hk with e|e|e|e|e|e|e|e|e|e|e|e|e|e|e|e
 ·rw [do1 e]
  exact fundR_dok hd
 ·rw [do2 e]
  exact movR_dok hd
 ·rw [do3 e]
  exact creR_dok hd
 ·rw [do4 e]
  exact updR_dok hd
 ·rw [do5 e]
  exact conR_dok hd
 ·rw [do6 e]
  exact conR_dok hd
 ·rw [do7 e]
  exact codR_dok hd
 ·rw [do8 e]
  exact codR_dok hd
 ·rw [do9 e]
  exact opnR_dok hd
 ·rw [do10 e]
  exact opnR_dok hd
 ·rw [do11 e]
  exact opdR_dok hd
 ·rw [do12 e]
  exact opdR_dok hd
 ·rw [do13 e]
  exact sndR_dok hd
 ·rw [do14 e]
  exact rcvR_dok hd
 ·rw [do15 e]
  exact acksR_dok hd
 ·rw [do16 e]
  exact timR_dok hd
end
end Go.Proofs.YtppngnhckahbnaaGreatDoor
