/- law 18: its small functions -/
import Derived.Test.YtlmcongmglfaeaaGreatDoorD17
import Derived.Test.YtlmcongmglfaeaaGreatDoorD42
import Derived.Test.YtlmcongmglfaeaaGreatDoorD43
import Derived.Test.YtlmcongmglfaeaaGreatDoorD44
import Derived.Test.YtlmcongmglfaeaaGreatDoorD45
namespace Go.Proofs.YtlmcongmglfaeaaGreatDoor
open Go Go.RowKit Tw Av
def sndS (d:List Ent)(x:Pkt):Out18:=pQ (sendR d (goes d x)).1 (kyW [80] x.s (goes d x).q) (comP (goes d x))
def sndT (d:List Ent)(x:Pkt):Out18:=pQ (sndS d x).1 (kyO [78] x.s) (tlvI 110 ((goes d x).q + 1))
def sndQ (d:List Ent)(x:Pkt):Out18:=
 if enB d [72] x.s=false then fQ 12 else if (enR d [72] x.s).s≠3 then fQ 13 else if chkP (goes d x)=false then fQ 1
 else if chaK d x.s=false\/clB d (chaN d x.s)=false then fQ 12
 else if lateP (goes d x) (latC (clR d (chaN d x.s)).l).h (latC (clR d (chaN d x.s)).l).t=true then fQ 21
 else if (sendR d (goes d x)).2≠0 then fQ (sendR d (goes d x)).2
 else if (sndS d x).2.e≠0 then sndS d x else if (sndT d x).2.e≠0 then sndT d x else ((sndT d x).1,⟨(sndT d x).2.e,(goes d x).q,(sndT d x).2.a⟩)
theorem pQ_yes {d:List Ent}{k v:Bs}(h:(putR d k v).2=0):pQ d k v=((putR d k v).1,rep0):=by
 unfold pQ
 rw [if_pos h]
theorem pQ_no {d:List Ent}{k v:Bs}(h:(putR d k v).2≠0):pQ d k v=fQ (putR d k v).2:=by
 unfold pQ
 rw [if_neg h]
theorem fin_id {d:List Ent}{q:Out18}(h:q.2.e=0):finQ d q=q:=by
 unfold finQ
 rw [if_pos h]
theorem cha_no {d:List Ent}{i:Bs}{A:EndX->Bool}(h:enB d [72] i=false):chaE d i A=12:=by
 unfold chaE
 rw [if_pos h]
theorem cha_st {d:List Ent}{i:Bs}{A:EndX->Bool}(h:enB d [72] i=true)(h2:(enR d [72] i).s≠3\/A (enR d [72] i)=false):chaE d i A=13:=by
 unfold chaE
 rw [if_neg (by rw [h];decide),if_pos h2]
theorem cha_ok {d:List Ent}{i:Bs}{A:EndX->Bool}(h:enB d [72] i=true)(h2:¬ ((enR d [72] i).s≠3\/A (enR d [72] i)=false)):chaE d i A=0:=by
 unfold chaE
 rw [if_neg (by rw [h];decide),if_neg h2]
theorem fin_snd {d:List Ent}{x:Pkt}:finQ d (sndQ d x)=sndR d x:=by
 unfold sndQ sndR
 cases h1:enB d [72] x.s
 ·rw [if_pos rfl,cha_no h1,if_pos (show (12:Int)≠0 by decide)]
  exact fin_f (by decide)
 rw [if_neg (show ¬ true=false by decide)]
 by_cases h2:(enR d [72] x.s).s=3
 rotate_left
 ·rw [if_pos h2,cha_st h1 (.inl h2),if_pos (show (13:Int)≠0 by decide)]
  exact fin_f (by decide)
 rw [if_neg (nni h2),cha_ok h1 (show ¬ ((enR d [72] x.s).s≠3\/true=false) by simp [h2])]
 rw [if_neg (show ¬ (0:Int)≠0 by decide)]
 split
 ·exact fin_f (by decide)
 split
 ·exact fin_f (by decide)
 split
 ·exact fin_f (by decide)
 unfold thenR
 dsimp only
 by_cases h3:(sendR d (goes d x)).2=0
 rotate_left
 ·rw [if_pos h3,if_neg h3,fin_f h3]
  unfold tellR
  rw [if_neg h3]
 rw [if_neg (nni h3),if_pos h3]
 unfold sndT
 by_cases h4:(putR (sendR d (goes d x)).1 (kyW [80] x.s (goes d x).q) (comP (goes d x))).2=0
 rotate_left
 ·have e:sndS d x=fQ _:=pQ_no h4
  rw [e,if_pos (show (fQ _).2.e≠0 from h4),if_neg h4,fin_f h4]
  unfold tellR
  rw [if_neg h4]
 have e:sndS d x=_:=pQ_yes h4
 rw [e,if_neg (show ¬ rep0.e≠0 from fun h=>h rfl),if_pos h4]
 dsimp only
 by_cases h5:(putR (putR (sendR d (goes d x)).1 (kyW [80] x.s (goes d x).q) (comP (goes d x))).1 (kyO [78] x.s) (tlvI 110 ((goes d x).q + 1))).2=0
 rotate_left
 ·rw [pQ_no h5,if_pos (show (fQ _).2.e≠0 from h5),fin_f h5]
  unfold tellR
  rw [if_neg h5]
 rw [pQ_yes h5,if_neg (show ¬ rep0.e≠0 from fun h=>h rfl),fin_id rfl]
 unfold tellR
 rw [if_pos h5]
 rfl
def rcvP (d:List Ent)(x:TxX):Out18:=pQ (if (recvR d x.x).2=0 then (recvR d x.x).1 else d) (kyW [71] x.x.k x.x.q) (rcpB (ackR d x.x))
def rcvQ (d:List Ent)(x:TxX)(h t:Int):Out18:=
 if chkP x.x=false then fQ 1 else if enB d [72] x.x.k=false then fQ 12 else if (enR d [72] x.x.k).s≠3\/(enR d [72] x.x.k).p≠x.x.s then fQ 13
 else if lateP x.x h t=true then fQ 21 else if (gO d (kyW [71] x.x.k x.x.q)).isSome=true then fQ 20 else if chaK d x.x.k=false then fQ 12
 else if prE d (chaN d x.x.k) x.t t (kyW [80] x.x.s x.x.q) (comP x.x) x.f≠0 then fQ (prE d (chaN d x.x.k) x.t t (kyW [80] x.x.s x.x.q) (comP x.x) x.f)
 else ((rcvP d x).1,⟨(rcvP d x).2.e,(rcvP d x).2.q,ackR d x.x⟩)
theorem fin_rcv {d:List Ent}{x:TxX}{h t:Int}:finQ d (rcvQ d x h t)=rcvR d x h t:=by
 unfold rcvQ rcvR
 split
 ·exact fin_f (by decide)
 cases h1:enB d [72] x.x.k
 ·rw [if_pos rfl,cha_no h1,if_pos (show (12:Int)≠0 by decide)]
  exact fin_f (by decide)
 rw [if_neg (show ¬ true=false by decide)]
 by_cases h2:(enR d [72] x.x.k).s≠3\/(enR d [72] x.x.k).p≠x.x.s
 ·rw [if_pos h2,cha_st h1 (by rcases h2 with h2|h2;exact .inl h2;exact .inr (dZ h2)),if_pos (show (13:Int)≠0 by decide)]
  exact fin_f (by decide)
 rw [if_neg h2,cha_ok h1 (show ¬ ((enR d [72] x.x.k).s≠3\/decide ((enR d [72] x.x.k).p=x.x.s)=false) from fun e=>h2 (by rcases e with e|e;exact .inl e;exact .inr (of_decide_eq_false e)))]
 rw [if_neg (show ¬ (0:Int)≠0 by decide)]
 split
 ·exact fin_f (by decide)
 split
 ·exact fin_f (by decide)
 split
 ·exact fin_f (by decide)
 split
 ·rename_i h3
  exact fin_f h3
 unfold rcvP
 by_cases h5:(putR (if (recvR d x.x).2=0 then (recvR d x.x).1 else d) (kyW [71] x.x.k x.x.q) (rcpB (ackR d x.x))).2=0
 ·rw [pQ_yes h5,fin_id rfl]
  unfold tellR
  rw [if_pos h5]
  rfl
 ·rw [pQ_no h5]
  unfold tellR finQ
  rw [if_neg h5,if_neg (show ¬ (fQ _).2.e=0 from h5)]
  rfl
def endP (d:List Ent)(x:Pkt)(b:Bool)(e:Int):Out18:=
 if enB d [72] x.s=false then fQ 12 else if (enR d [72] x.s).s≠3\/(enR d [72] x.s).p≠x.k then fQ 13
 else if gO d (kyW [80] x.s x.q)≠some (comP x) then fQ 12 else if chaK d x.s=false then fQ 12
 else if e≠0 then fQ e else if b=true/\(backR d x).2≠0 then fQ (backR d x).2
 else (drpL (if b=true then (backR d x).1 else d) (kyW [80] x.s x.q),rep0)
theorem fin_end {d:List Ent}{x:Pkt}{b:Bool}{e:Int}:finQ d (endP d x b e)=endR d x b e:=by
 unfold endP endR
 cases h1:enB d [72] x.s
 ·rw [if_pos rfl,cha_no h1,if_pos (show (12:Int)≠0 by decide)]
  exact fin_f (by decide)
 rw [if_neg (show ¬ true=false by decide)]
 by_cases h2:(enR d [72] x.s).s≠3\/(enR d [72] x.s).p≠x.k
 ·rw [if_pos h2,cha_st h1 (by rcases h2 with h2|h2;exact .inl h2;exact .inr (dZ h2)),if_pos (show (13:Int)≠0 by decide)]
  exact fin_f (by decide)
 rw [if_neg h2,cha_ok h1 (show ¬ ((enR d [72] x.s).s≠3\/decide ((enR d [72] x.s).p=x.k)=false) from fun e=>h2 (by rcases e with e|e;exact .inl e;exact .inr (of_decide_eq_false e)))]
 rw [if_neg (show ¬ (0:Int)≠0 by decide)]
 by_cases h3:gO d (kyW [80] x.s x.q)=some (comP x)
 rotate_left
 ·rw [if_pos h3,if_pos (.inl h3)]
  exact fin_f (by decide)
 rw [if_neg (nni h3)]
 cases h4:chaK d x.s
 ·rw [if_pos rfl,if_pos (.inr rfl)]
  exact fin_f (by decide)
 rw [if_neg (show ¬ true=false by decide),if_neg (show ¬ (gO d (kyW [80] x.s x.q)≠some (comP x)\/true=false) by simp [h3])]
 split
 ·rename_i h5
  exact fin_f h5
 split
 ·rename_i h5
  exact fin_f h5.2
 exact fin_id rfl
def edB (x:TxX):Bool:=if x.k=15 then decide (ackV x.a≠0) else true
def edE (d:List Ent)(x:TxX)(t:Int):Int:=if x.k=15 then prE d (chaN d x.x.s) x.t t (kyW [71] x.x.k x.x.q) (rcpB x.a) x.f else timE d x t
def endQ (d:List Ent)(x:TxX)(t:Int):Out18:=if chkP x.x=false\/(x.k=15/\ackIs x.a=false) then fQ 1 else endP d x.x (edB x) (edE d x t)
theorem fin_ack {d:List Ent}{x:TxX}{t:Int}(h:x.k=15):finQ d (endQ d x t)=acksR d x t:=by
 unfold endQ acksR
 by_cases h1:chkP x.x=false\/ackIs x.a=false
 ·rw [if_pos h1,if_pos (by rcases h1 with h1|h1;exact .inl h1;exact .inr ⟨h,h1⟩)]
  exact fin_f (by decide)
 ·rw [if_neg h1,if_neg (fun e=>h1 (by rcases e with e|e;exact .inl e;exact .inr e.2)),edB,edE,if_pos h,if_pos h]
  exact fin_end
theorem fin_tim {d:List Ent}{x:TxX}{t:Int}(h:x.k=16):finQ d (endQ d x t)=timR d x t:=by
 have hn:¬ x.k=15:=by rw [h];decide
 unfold endQ timR
 by_cases h1:chkP x.x=false
 ·rw [if_pos h1,if_pos (.inl h1)]
  exact fin_f (by decide)
 ·rw [if_neg h1,if_neg (fun e=>by rcases e with e|e;exact h1 e;exact hn e.1),edB,edE,if_neg hn,if_neg hn]
  exact fin_end
def doQ (d:List Ent)(x:TxX)(h t:Int):Out18:=
 if x.k=1\/x.k=2 then coinQ d x else if x.k=3\/x.k=4 then cliQ d x t else if x.k=5\/x.k=6 then begK d x (decide (x.k=6)) t else if x.k=9\/x.k=10 then begH d x (decide (x.k=10)) t
 else if x.k=7\/x.k=8 then opnK d x (decide (x.k=7)) t else if x.k=11\/x.k=12 then opnH d x (decide (x.k=11)) t else if x.k=13 then sndQ d x.x else if x.k=14 then rcvQ d x h t else if x.k=15\/x.k=16 then endQ d x t else fQ 1
theorem fin_do {d:List Ent}{x:TxX}{h t:Int}:finQ d (doQ d x h t)=doR d x h t:=by
 unfold doQ doR
 by_cases h1:x.k=1
 ·rw [if_pos (.inl h1),if_pos h1]
  exact fin_fund h1
 rw [if_neg h1]
 by_cases h2:x.k=2
 ·rw [if_pos (.inr h2),if_pos h2]
  exact fin_move h2
 rw [if_neg h2,if_neg (show ¬ (x.k=1\/x.k=2) by omega)]
 by_cases h3:x.k=3
 ·rw [if_pos (.inl h3),if_pos h3]
  exact fin_cre h3
 rw [if_neg h3]
 by_cases h4:x.k=4
 ·rw [if_pos (.inr h4),if_pos h4]
  exact fin_upd h4
 rw [if_neg h4,if_neg (show ¬ (x.k=3\/x.k=4) by omega)]
 by_cases h5:x.k=5\/x.k=6
 ·rw [if_pos h5,if_pos h5]
  exact fin_con
 rw [if_neg h5,if_neg h5]
 by_cases h6:x.k=7\/x.k=8
 ·rw [if_neg (show ¬ (x.k=9\/x.k=10) by omega),if_pos h6,if_pos h6]
  exact fin_cod
 rw [if_neg h6,if_neg h6]
 by_cases h7:x.k=9\/x.k=10
 ·rw [if_pos h7,if_pos h7]
  exact fin_opn
 rw [if_neg h7,if_neg h7]
 by_cases h8:x.k=11\/x.k=12
 ·rw [if_pos h8,if_pos h8]
  exact fin_opd
 rw [if_neg h8,if_neg h8]
 by_cases h9:x.k=13
 ·rw [if_pos h9,if_pos h9]
  exact fin_snd
 rw [if_neg h9,if_neg h9]
 by_cases h10:x.k=14
 ·rw [if_pos h10,if_pos h10]
  exact fin_rcv
 rw [if_neg h10,if_neg h10]
 by_cases h11:x.k=15
 ·rw [if_pos (.inl h11),if_pos h11]
  exact fin_ack h11
 rw [if_neg h11]
 by_cases h12:x.k=16
 ·rw [if_pos (.inr h12),if_pos h12]
  exact fin_tim h12
 rw [if_neg h12,if_neg (show ¬ (x.k=15\/x.k=16) by omega)]
 exact fin_f (by decide)

attribute [local irreducible] clB enB lateP
theorem tim_no {d:List Ent}{x:TxX}{t:Int}(h:goE d (chaN d x.x.s) x.t t (kyW [71] x.x.k x.x.q) x.g≠0):timE d x t=goE d (chaN d x.x.s) x.t t (kyW [71] x.x.k x.x.q) x.g:=by
 unfold timE
 rw [if_neg (fun e=>h e.1)]
theorem tim_late {d:List Ent}{x:TxX}{t:Int}(h:goE d (chaN d x.x.s) x.t t (kyW [71] x.x.k x.x.q) x.g=0)(h2:lateP x.x (goR d (chaN d x.x.s) x.t t (kyW [71] x.x.k x.x.q) x.g).h (goR d (chaN d x.x.s) x.t t (kyW [71] x.x.k x.x.q) x.g).t=false):timE d x t=21:=by
 unfold timE
 rw [if_pos ⟨h,h2⟩]
theorem tim_ok {d:List Ent}{x:TxX}{t:Int}(h:goE d (chaN d x.x.s) x.t t (kyW [71] x.x.k x.x.q) x.g=0)(h2:lateP x.x (goR d (chaN d x.x.s) x.t t (kyW [71] x.x.k x.x.q) x.g).h (goR d (chaN d x.x.s) x.t t (kyW [71] x.x.k x.x.q) x.g).t=true):timE d x t=0:=by
 unfold timE
 rw [if_neg (fun e=>by rw [h2] at e;cases e.2),h]
theorem pQ_dok {d:List Ent}{k v:Bs}(h:DOk d):DOk (pQ d k v).1:=by
 unfold pQ
 split
 ·exact putR_dok h
 ·exact .nil
set_option maxHeartbeats 4000000 in
instance fnR18Send {d:List Ent}{x:TxX}{xs:List AV}{id:Option Value}[hx:Ents xs d]:Ans Tryz.prog GL 139 [.sl 2 xs id,txA x] (DOk d/\TxB x) (qA (sndQ d x.x)):=⟨fun hp=>by
 obtain⟨hd,hb⟩:=hp
 have b1:=hb.d
 have b2:=hb.s
 have b3:=hb.f
 have b4:=hb.g
 obtain⟨l1,l2,l3,l4⟩:=en_len d [72] x.x.s
 refine qE Tryz.func139 rfl Tryz.ntmps139 rfl (fun _ hs=>?_)
 repeat' first|refine Zz ?_|intro _
 unfold sndQ sndT sndS goes chaK chaN
 dsimp only
 cases h0:enB d [72] x.x.s
 ·rw [if_pos rfl]
  repeat' first|refine Zz ?_|intro _
  refine reE ?_
  rfl
 rw [if_neg (show ¬ true=false by decide)]
 repeat' first|refine Zz ?_|intro _
 by_cases h1:(enR d [72] x.x.s).s=3
 rotate_left
 ·rw [if_pos h1,dT h1]
  repeat' first|refine Zz ?_|intro _
  refine reE ?_
  rfl
 rw [if_neg (nni h1),dZ (nni h1)]
 repeat' first|refine Zz ?_|intro _
 unfold chkN
 cases h2:chkP ⟨nxR d x.x.s,x.x.s,(enR d [72] x.x.s).p,x.x.d,x.x.a,x.x.f,x.x.g,x.x.h,x.x.t⟩
 ·rw [if_pos rfl,if_neg (show ¬ false=true by decide),dT (show (1:Int)≠0 by decide)]
  repeat' first|refine Zz ?_|intro _
  refine reE ?_
  rfl
 rw [if_neg (show ¬ true=false by decide),if_pos rfl,dZ (show ¬ (0:Int)≠0 by decide)]
 repeat' first|refine Zz ?_|intro _
 cases h3:enB d [75] (enR d [72] x.x.s).o
 ·rw [if_pos (.inl rfl)]
  repeat' first|refine Zz ?_|intro _
  refine reE ?_
  rfl
 repeat' first|refine Zz ?_|intro _
 cases h4:clB d (enR d [75] (enR d [72] x.x.s).o).o
 ·rw [if_pos (.inr rfl)]
  repeat' first|refine Zz ?_|intro _
  refine reE ?_
  rfl
 rw [if_neg (show ¬ (true=false\/true=false) by decide)]
 repeat' first|refine Zz ?_|intro _
 cases h5:lateP ⟨nxR d x.x.s,x.x.s,(enR d [72] x.x.s).p,x.x.d,x.x.a,x.x.f,x.x.g,x.x.h,x.x.t⟩ (latC (clR d (enR d [75] (enR d [72] x.x.s).o).o).l).h (latC (clR d (enR d [75] (enR d [72] x.x.s).o).o).l).t
 rotate_left
 ·rw [if_pos rfl]
  repeat' first|refine Zz ?_|intro _
  refine reE ?_
  rfl
 rw [if_neg (show ¬ false=true by decide)]
 have q1:DOk d/\x.x.s.length<=1000000000/\(enR d [72] x.x.s).p.length<=1000000000/\x.x.d.length<=1000000000/\x.x.f.length<=1000000000/\x.x.g.length<=1000000000:=⟨hd,by omega,by omega,by omega,by omega,by omega⟩
 obtain⟨q3,q4,q5,q8⟩:nxR d x.x.s<=1099511627776/\x.x.h<=1099511627776/\x.x.t<=1099511627776/\1<=nxR d x.x.s:=nums_le h2
 have q6:DOk (sendR d ⟨nxR d x.x.s,x.x.s,(enR d [72] x.x.s).p,x.x.d,x.x.a,x.x.f,x.x.g,x.x.h,x.x.t⟩).1:=sendR_dok hd
 have q7:DOk (pQ (sendR d ⟨nxR d x.x.s,x.x.s,(enR d [72] x.x.s).p,x.x.d,x.x.a,x.x.f,x.x.g,x.x.h,x.x.t⟩).1 (kyW [80] x.x.s (nxR d x.x.s)) (comP ⟨nxR d x.x.s,x.x.s,(enR d [72] x.x.s).p,x.x.d,x.x.a,x.x.f,x.x.g,x.x.h,x.x.t⟩)).1:=pQ_dok q6
 repeat' first|refine Zz ?_|intro _
 by_cases h6:(sendR d ⟨nxR d x.x.s,x.x.s,(enR d [72] x.x.s).p,x.x.d,x.x.a,x.x.f,x.x.g,x.x.h,x.x.t⟩).2=0
 rotate_left
 ·rw [if_pos h6,dT h6]
  repeat' first|refine Zz ?_|intro _
  refine reE ?_
  rfl
 rw [if_neg (nni h6),dZ (nni h6)]
 repeat' first|refine Zz ?_|intro _
 by_cases h7:(pQ (sendR d ⟨nxR d x.x.s,x.x.s,(enR d [72] x.x.s).p,x.x.d,x.x.a,x.x.f,x.x.g,x.x.h,x.x.t⟩).1 (kyW [80] x.x.s (nxR d x.x.s)) (comP ⟨nxR d x.x.s,x.x.s,(enR d [72] x.x.s).p,x.x.d,x.x.a,x.x.f,x.x.g,x.x.h,x.x.t⟩)).2.e=0
 rotate_left
 ·rw [if_pos h7,dT h7]
  repeat' first|refine Zz ?_|intro _
  refine reE ?_
  rfl
 rw [if_neg (nni h7),dZ (nni h7)]
 repeat' first|refine Zz ?_|intro _
 by_cases h8:(pQ (pQ (sendR d ⟨nxR d x.x.s,x.x.s,(enR d [72] x.x.s).p,x.x.d,x.x.a,x.x.f,x.x.g,x.x.h,x.x.t⟩).1 (kyW [80] x.x.s (nxR d x.x.s)) (comP ⟨nxR d x.x.s,x.x.s,(enR d [72] x.x.s).p,x.x.d,x.x.a,x.x.f,x.x.g,x.x.h,x.x.t⟩)).1 (kyO [78] x.x.s) (tlvI 110 (nxR d x.x.s + 1))).2.e=0
 rotate_left
 ·rw [if_pos h8,dT h8]
  repeat' first|refine Zz ?_|intro _
  refine reE ?_
  rfl
 rw [if_neg (nni h8),dZ (nni h8)]
 repeat' first|refine Zz ?_|intro _
 refine reE ?_
 rfl⟩
set_option maxHeartbeats 4000000 in
instance fnR18Recv {d:List Ent}{h t:Int}{x:TxX}{xs:List AV}{id:Option Value}[hx:Ents xs d]:Ans Tryz.prog GL 140 [.sl 2 xs id,txA x,int h,int t] (DOk d/\TxB x) (qA (rcvQ d x h t)):=⟨fun hp=>by
 obtain⟨hd,hb⟩:=hp
 have b1:=hb.d
 have b2:=hb.s
 have b3:=hb.f
 have b4:=hb.g
 have b5:=hb.k
 have b6:DOk d/\x.f.m<=9223372036854775807:=⟨hd,hb.fm⟩
 obtain⟨l1,l2,l3,l4⟩:=en_len d [72] x.x.k
 have h':=hx.out
 subst h'
 refine qE Tryz.func140 rfl Tryz.ntmps140 rfl (fun _ hs=>?_)
 repeat' first|refine Zz ?_|intro _
 unfold rcvQ rcvP chkN chaK chaN
 cases h2:chkP x.x
 ·rw [if_pos rfl,if_neg (show ¬ false=true by decide),dT (show (1:Int)≠0 by decide)]
  repeat' first|refine Zz ?_|intro _
  refine reE ?_
  rfl
 rw [if_neg (show ¬ true=false by decide),if_pos rfl,dZ (show ¬ (0:Int)≠0 by decide)]
 obtain⟨q3,q4,q5,q8⟩:=nums_le h2
 repeat' first|refine Zz ?_|intro _
 cases h0:enB d [72] x.x.k
 ·rw [if_pos rfl]
  repeat' first|refine Zz ?_|intro _
  refine reE ?_
  rfl
 rw [if_neg (show ¬ true=false by decide)]
 repeat' first|refine Zz ?_|intro _
 by_cases h1:(enR d [72] x.x.k).s=3
 rotate_left
 ·rw [if_pos (.inl h1),dT h1]
  repeat' first|refine Zz ?_|intro _
  refine reE ?_
  rfl
 rw [dZ (nni h1)]
 repeat' first|refine Zz ?_|intro _
 by_cases h1':(enR d [72] x.x.k).p=x.x.s
 rotate_left
 ·rw [if_pos (.inr h1'),dT h1']
  repeat' first|refine Zz ?_|intro _
  refine reE ?_
  rfl
 rw [if_neg (show ¬ ((enR d [72] x.x.k).s≠3\/(enR d [72] x.x.k).p≠x.x.s) by simp [h1,h1']),dZ (nni h1')]
 repeat' first|refine Zz ?_|intro _
 cases h3:lateP x.x h t
 rotate_left
 ·rw [if_pos rfl]
  repeat' first|refine Zz ?_|intro _
  refine reE ?_
  rfl
 rw [if_neg (show ¬ false=true by decide)]
 repeat' first|refine Zz ?_|intro _
 cases h4:(gO d (kyW [71] x.x.k x.x.q)).isSome
 rotate_left
 ·rw [if_pos rfl]
  repeat' first|refine Zz ?_|intro _
  refine reE ?_
  rfl
 rw [if_neg (show ¬ false=true by decide)]
 repeat' first|refine Zz ?_|intro _
 cases h5:enB d [75] (enR d [72] x.x.k).o
 ·rw [if_pos rfl]
  repeat' first|refine Zz ?_|intro _
  refine reE ?_
  rfl
 rw [if_neg (show ¬ true=false by decide)]
 repeat' first|refine Zz ?_|intro _
 by_cases h6:prE d (enR d [75] (enR d [72] x.x.k).o).o x.t t (kyW [80] x.x.s x.x.q) (comP x.x) x.f=0
 rotate_left
 ·rw [if_pos h6,dT h6]
  repeat' first|refine Zz ?_|intro _
  refine reE ?_
  rfl
 rw [if_neg (nni h6),dZ (nni h6)]
 have p5:DOk d/\x.x.s.length<=400000000/\x.x.k.length<=400000000/\x.x.d.length<=400000000/\x.x.f.length<=400000000/\x.x.g.length<=400000000:=⟨hd,b2,b5,b1,b3,b4⟩
 have q6:DOk (recvR d x.x).1:=recvR_dok hd
 have q7:=recvR_e (d:=d) (x:=x.x)
 unfold ackR
 repeat' first|refine Zz ?_|intro _
 by_cases h7:(recvR d x.x).2=0
 ·rw [if_pos h7,if_pos h7,dZ (nni h7)]
  repeat' first|refine Zz ?_|intro _
  refine reE ?_
  rfl
 ·rw [if_neg h7,if_neg h7,dT h7]
  have q9:(failB (recvR d x.x).2).length<=1000000000:=by
   unfold failB
   exact (by decide:2<=1000000000)
  repeat' first|refine Zz ?_|intro _
  refine reE ?_
  rfl⟩
set_option maxHeartbeats 4000000 in
instance fnR18Ends {d:List Ent}{t:Int}{x:TxX}{xs:List AV}{id:Option Value}[hx:Ents xs d]:Ans Tryz.prog GL 141 [.sl 2 xs id,txA x,int t] (DOk d/\TxB x) (qA (endQ d x t)):=⟨fun hp=>by
 obtain⟨hd,hb⟩:=hp
 have b1:=hb.d
 have b2:=hb.s
 have b3:=hb.f
 have b4:=hb.g
 have b5:=hb.k
 have b7:=hb.a
 have b6:DOk d/\x.f.m<=9223372036854775807:=⟨hd,hb.fm⟩
 have b8:DOk d/\x.g.a.m<=9223372036854775807/\x.g.b.m<=9223372036854775807:=⟨hd,hb.gm⟩
 obtain⟨l1,l2,l3,l4⟩:=en_len d [72] x.x.s
 have h':=hx.out
 subst h'
 refine qE Tryz.func141 rfl Tryz.ntmps141 rfl (fun _ hs=>?_)
 repeat' first|refine Zz ?_|intro _
 unfold endQ endP chkN
 cases h2:chkP x.x
 ·rw [if_pos (.inl rfl),if_neg (show ¬ false=true by decide),dT (show (1:Int)≠0 by decide)]
  repeat' first|refine Zz ?_|intro _
  refine reE ?_
  rfl
 rw [if_pos rfl,dZ (show ¬ (0:Int)≠0 by decide)]
 obtain⟨q3,q4,q5,q8⟩:=nums_le h2
 have p5:DOk d/\x.x.s.length<=1000000000/\x.x.k.length<=1000000000/\x.x.d.length<=1000000000/\x.x.f.length<=1000000000/\x.x.g.length<=1000000000:=⟨hd,by omega,by omega,by omega,by omega,by omega⟩
 have q6:DOk (backR d x.x).1:=backR_dok hd
 repeat' first|refine Zz ?_|intro _
 by_cases hk:x.k=15
 ·rw [dT hk]
  repeat' first|refine Zz ?_|intro _
  cases h10:ackIs x.a
  ·rw [if_pos (.inr ⟨hk,rfl⟩)]
   repeat' first|refine Zz ?_|intro _
   refine reE ?_
   rfl
  rw [if_neg (show ¬ (true=false\/(x.k=15/\true=false)) by simp),edB,edE,if_pos hk,if_pos hk]
  unfold chaK chaN
  repeat' first|refine Zz ?_|intro _
  cases h0:enB d [72] x.x.s
  ·rw [if_pos rfl]
   repeat' first|refine Zz ?_|intro _
   refine reE ?_
   rfl
  rw [if_neg (show ¬ true=false by decide)]
  repeat' first|refine Zz ?_|intro _
  by_cases h1:(enR d [72] x.x.s).s=3
  rotate_left
  ·rw [if_pos (.inl h1),dT h1]
   repeat' first|refine Zz ?_|intro _
   refine reE ?_
   rfl
  rw [dZ (nni h1)]
  repeat' first|refine Zz ?_|intro _
  by_cases h1':(enR d [72] x.x.s).p=x.x.k
  rotate_left
  ·rw [if_pos (.inr h1'),dT h1']
   repeat' first|refine Zz ?_|intro _
   refine reE ?_
   rfl
  rw [if_neg (show ¬ ((enR d [72] x.x.s).s≠3\/(enR d [72] x.x.s).p≠x.x.k) by simp [h1,h1']),dZ (nni h1')]
  repeat' first|refine Zz ?_|intro _
  cases hg:gO d (kyW [80] x.x.s x.x.q) with
  | none=>
   rw [if_pos (show (none:Option Bs)≠some (comP x.x) from fun e=>by cases e)]
   repeat' first|refine Zz ?_|intro _
   refine reE ?_
   rfl
  | some v=>
  have hv:valE d (kyW [80] x.x.s x.x.q)=v:=by
   unfold valE
   rw [hg]
   rfl
  rw [hv]
  repeat' first|refine Zz ?_|intro _
  by_cases h3:v=comP x.x
  rotate_left
  ·rw [if_pos (show some v≠some (comP x.x) from fun e=>h3 (Option.some.inj e)),dT h3]
   repeat' first|refine Zz ?_|intro _
   refine reE ?_
   rfl
  rw [if_neg (show ¬ some v≠some (comP x.x) by rw [h3];simp),dZ (nni h3)]
  repeat' first|refine Zz ?_|intro _
  cases h5:enB d [75] (enR d [72] x.x.s).o
  ·rw [if_pos rfl]
   repeat' first|refine Zz ?_|intro _
   refine reE ?_
   rfl
  rw [if_neg (show ¬ true=false by decide)]
  repeat' first|refine Zz ?_|intro _
  by_cases h6:prE d (enR d [75] (enR d [72] x.x.s).o).o x.t t (kyW [71] x.x.k x.x.q) (rcpB x.a) x.f=0
  rotate_left
  ·rw [if_pos h6,dT h6]
   repeat' first|refine Zz ?_|intro _
   refine reE ?_
   rfl
  rw [if_neg (nni h6),dZ (nni h6)]
  repeat' first|refine Zz ?_|intro _
  cases h8:decide (ackV x.a≠0)
  ·rw [if_neg (fun e=>by cases e.1),if_neg (show ¬ false=true by decide)]
   repeat' first|refine Zz ?_|intro _
   refine reE ?_
   rfl
  by_cases h9:(backR d x.x).2=0
  rotate_left
  ·rw [if_pos ⟨rfl,h9⟩]
   repeat' first|refine Zz ?_|intro _
   rw [dT h9]
   repeat' first|refine Zz ?_|intro _
   refine reE ?_
   rfl
  rw [if_neg (fun e=>e.2 h9),if_pos rfl]
  repeat' first|refine Zz ?_|intro _
  rw [dZ (nni h9)]
  repeat' first|refine Zz ?_|intro _
  refine reE ?_
  rfl
 ·rw [dZ hk]
  repeat' first|refine Zz ?_|intro _
  rw [if_neg (show ¬ (true=false\/(x.k=15/\ackIs x.a=false)) by simp [hk]),edB,edE,if_neg hk,if_neg hk]
  unfold chaK
  repeat' first|refine Zz ?_|intro _
  cases h0:enB d [72] x.x.s
  ·rw [if_pos rfl]
   repeat' first|refine Zz ?_|intro _
   refine reE ?_
   rfl
  rw [if_neg (show ¬ true=false by decide)]
  repeat' first|refine Zz ?_|intro _
  by_cases h1:(enR d [72] x.x.s).s=3
  rotate_left
  ·rw [if_pos (.inl h1),dT h1]
   repeat' first|refine Zz ?_|intro _
   refine reE ?_
   rfl
  rw [dZ (nni h1)]
  repeat' first|refine Zz ?_|intro _
  by_cases h1':(enR d [72] x.x.s).p=x.x.k
  rotate_left
  ·rw [if_pos (.inr h1'),dT h1']
   repeat' first|refine Zz ?_|intro _
   refine reE ?_
   rfl
  rw [if_neg (show ¬ ((enR d [72] x.x.s).s≠3\/(enR d [72] x.x.s).p≠x.x.k) by simp [h1,h1']),dZ (nni h1')]
  repeat' first|refine Zz ?_|intro _
  cases hg:gO d (kyW [80] x.x.s x.x.q) with
  | none=>
   rw [if_pos (show (none:Option Bs)≠some (comP x.x) from fun e=>by cases e)]
   repeat' first|refine Zz ?_|intro _
   refine reE ?_
   rfl
  | some v=>
  have hv:valE d (kyW [80] x.x.s x.x.q)=v:=by
   unfold valE
   rw [hg]
   rfl
  rw [hv]
  repeat' first|refine Zz ?_|intro _
  by_cases h3:v=comP x.x
  rotate_left
  ·rw [if_pos (show some v≠some (comP x.x) from fun e=>h3 (Option.some.inj e)),dT h3]
   repeat' first|refine Zz ?_|intro _
   refine reE ?_
   rfl
  rw [if_neg (show ¬ some v≠some (comP x.x) by rw [h3];simp),dZ (nni h3)]
  repeat' first|refine Zz ?_|intro _
  cases h5:enB d [75] (enR d [72] x.x.s).o
  ·rw [if_pos rfl]
   repeat' first|refine Zz ?_|intro _
   refine reE ?_
   rfl
  rw [if_neg (show ¬ true=false by decide)]
  repeat' first|refine Zz ?_|intro _
  by_cases h6:goE d (enR d [75] (enR d [72] x.x.s).o).o x.t t (kyW [71] x.x.k x.x.q) x.g=0
  rotate_left
  ·have h6':goE d (chaN d x.x.s) x.t t (kyW [71] x.x.k x.x.q) x.g≠0:=h6
   rw [tim_no h6',if_pos h6',dT h6]
   repeat' first|refine Zz ?_|intro _
   refine reE ?_
   rfl
  rw [dZ (nni h6)]
  repeat' first|refine Zz ?_|intro _
  cases h8:lateP x.x (goR d (enR d [75] (enR d [72] x.x.s).o).o x.t t (kyW [71] x.x.k x.x.q) x.g).h (goR d (enR d [75] (enR d [72] x.x.s).o).o x.t t (kyW [71] x.x.k x.x.q) x.g).t
  ·rw [tim_late h6 h8,if_pos (show (21:Int)≠0 by decide)]
   repeat' first|refine Zz ?_|intro _
   refine reE ?_
   rfl
  rw [tim_ok h6 h8,if_neg (show ¬ (0:Int)≠0 by decide)]
  repeat' first|refine Zz ?_|intro _
  by_cases h9:(backR d x.x).2=0
  rotate_left
  ·rw [if_pos ⟨trivial,h9⟩]
   repeat' first|refine Zz ?_|intro _
   rw [dT h9]
   repeat' first|refine Zz ?_|intro _
   refine reE ?_
   rfl
  rw [if_neg (fun e=>e.2 h9),if_pos trivial]
  repeat' first|refine Zz ?_|intro _
  rw [dZ (nni h9)]
  repeat' first|refine Zz ?_|intro _
  refine reE ?_
  rfl⟩
end Go.Proofs.YtlmcongmglfaeaaGreatDoor

namespace Go.Proofs.YtlmcongmglfaeaaGreatDoor
open Go Go.RowKit Tw Av
attribute [local irreducible] clB enB lateP coinQ cliQ begK begH opnK opnH sndQ rcvQ endQ
set_option maxHeartbeats 4000000 in
instance fnR18do {d:List Ent}{h t:Int}{x:TxX}{xs:List AV}{id:Option Value}[hx:Ents xs d]:Ans Tryz.prog GL 51 [.sl 2 xs id,txA x,int h,int t] (DOk d/\TxB x) (qA (doQ d x h t)):=⟨fun hp=>by
 refine qE Tryz.func51 rfl Tryz.ntmps51 rfl (fun _ hs=>?_)
 repeat' first|refine Zz ?_|intro _
 unfold doQ
 by_cases h1:x.k=1
 ·rw [if_pos (.inl h1),dT h1]
  repeat' first|refine Zz ?_|intro _
  refine reE ?_
  first|rfl|(rw [dT (by assumption)];rfl)|(rw [dZ (by assumption)];rfl)
 rw [dZ h1]
 repeat' first|refine Zz ?_|intro _
 by_cases h2:x.k=2
 ·rw [if_pos (.inr h2),dT h2]
  repeat' first|refine Zz ?_|intro _
  refine reE ?_
  first|rfl|(rw [dT (by assumption)];rfl)|(rw [dZ (by assumption)];rfl)
 rw [dZ h2]
 repeat' first|refine Zz ?_|intro _
 rw [if_neg (show ¬ (x.k=1\/x.k=2) by omega)]
 by_cases h3:x.k=3
 ·rw [if_pos (.inl h3),dT h3]
  repeat' first|refine Zz ?_|intro _
  refine reE ?_
  first|rfl|(rw [dT (by assumption)];rfl)|(rw [dZ (by assumption)];rfl)
 rw [dZ h3]
 repeat' first|refine Zz ?_|intro _
 by_cases h4:x.k=4
 ·rw [if_pos (.inr h4),dT h4]
  repeat' first|refine Zz ?_|intro _
  refine reE ?_
  first|rfl|(rw [dT (by assumption)];rfl)|(rw [dZ (by assumption)];rfl)
 rw [dZ h4]
 repeat' first|refine Zz ?_|intro _
 rw [if_neg (show ¬ (x.k=3\/x.k=4) by omega)]
 by_cases h5:x.k=5
 ·rw [if_pos (.inl h5),dT h5]
  repeat' first|refine Zz ?_|intro _
  refine reE ?_
  first|rfl|(rw [dT (by assumption)];rfl)|(rw [dZ (by assumption)];rfl)
 rw [dZ h5]
 repeat' first|refine Zz ?_|intro _
 by_cases h6:x.k=6
 ·rw [if_pos (.inr h6),dT h6]
  repeat' first|refine Zz ?_|intro _
  refine reE ?_
  first|rfl|(rw [dT (by assumption)];rfl)|(rw [dZ (by assumption)];rfl)
 rw [dZ h6]
 repeat' first|refine Zz ?_|intro _
 rw [if_neg (show ¬ (x.k=5\/x.k=6) by omega)]
 by_cases h9:x.k=9
 ·rw [if_pos (.inl h9),dT h9]
  repeat' first|refine Zz ?_|intro _
  refine reE ?_
  first|rfl|(rw [dT (by assumption)];rfl)|(rw [dZ (by assumption)];rfl)
 rw [dZ h9]
 repeat' first|refine Zz ?_|intro _
 by_cases h10:x.k=10
 ·rw [if_pos (.inr h10),dT h10]
  repeat' first|refine Zz ?_|intro _
  refine reE ?_
  first|rfl|(rw [dT (by assumption)];rfl)|(rw [dZ (by assumption)];rfl)
 rw [dZ h10]
 repeat' first|refine Zz ?_|intro _
 rw [if_neg (show ¬ (x.k=9\/x.k=10) by omega)]
 by_cases h7:x.k=7
 ·rw [if_pos (.inl h7),dT h7]
  repeat' first|refine Zz ?_|intro _
  refine reE ?_
  first|rfl|(rw [dT (by assumption)];rfl)|(rw [dZ (by assumption)];rfl)
 rw [dZ h7]
 repeat' first|refine Zz ?_|intro _
 by_cases h8:x.k=8
 ·rw [if_pos (.inr h8),dT h8]
  repeat' first|refine Zz ?_|intro _
  refine reE ?_
  first|rfl|(rw [dT (by assumption)];rfl)|(rw [dZ (by assumption)];rfl)
 rw [dZ h8]
 repeat' first|refine Zz ?_|intro _
 rw [if_neg (show ¬ (x.k=7\/x.k=8) by omega)]
 by_cases h11:x.k=11
 ·rw [if_pos (.inl h11),dT h11]
  repeat' first|refine Zz ?_|intro _
  refine reE ?_
  first|rfl|(rw [dT (by assumption)];rfl)|(rw [dZ (by assumption)];rfl)
 rw [dZ h11]
 repeat' first|refine Zz ?_|intro _
 by_cases h12:x.k=12
 ·rw [if_pos (.inr h12),dT h12]
  repeat' first|refine Zz ?_|intro _
  refine reE ?_
  first|rfl|(rw [dT (by assumption)];rfl)|(rw [dZ (by assumption)];rfl)
 rw [dZ h12]
 repeat' first|refine Zz ?_|intro _
 rw [if_neg (show ¬ (x.k=11\/x.k=12) by omega)]
 by_cases h13:x.k=13
 ·rw [if_pos h13,dT h13]
  repeat' first|refine Zz ?_|intro _
  refine reE ?_
  first|rfl|(rw [dT (by assumption)];rfl)|(rw [dZ (by assumption)];rfl)
 rw [if_neg h13,dZ h13]
 repeat' first|refine Zz ?_|intro _
 by_cases h14:x.k=14
 ·rw [if_pos h14,dT h14]
  repeat' first|refine Zz ?_|intro _
  refine reE ?_
  first|rfl|(rw [dT (by assumption)];rfl)|(rw [dZ (by assumption)];rfl)
 rw [if_neg h14,dZ h14]
 repeat' first|refine Zz ?_|intro _
 by_cases h15:x.k=15
 ·rw [if_pos (.inl h15),dT h15]
  repeat' first|refine Zz ?_|intro _
  refine reE ?_
  first|rfl|(rw [dT (by assumption)];rfl)|(rw [dZ (by assumption)];rfl)
 rw [dZ h15]
 repeat' first|refine Zz ?_|intro _
 by_cases h16:x.k=16
 ·rw [if_pos (.inr h16),dT h16]
  repeat' first|refine Zz ?_|intro _
  refine reE ?_
  first|rfl|(rw [dT (by assumption)];rfl)|(rw [dZ (by assumption)];rfl)
 rw [dZ h16]
 repeat' first|refine Zz ?_|intro _
 rw [if_neg (show ¬ (x.k=15\/x.k=16) by omega)]
 repeat' first|refine Zz ?_|intro _
 refine reE ?_
 rfl⟩
attribute [local irreducible] doQ
instance fnR18Do {d:List Ent}{h t:Int}{x:TxX}{xs:List AV}{id:Option Value}[hx:Ents xs d]:Ans Tryz.prog GL 12 [.sl 2 xs id,txA x,int h,int t] (DOk d/\TxB x) (.tup [dSl (doR d x h t).1,repA (doR d x h t).2]):=⟨fun hp=>by
 have h':=hx.out
 subst h'
 refine qE Tryz.func12 rfl Tryz.ntmps12 rfl (fun _ hs=>?_)
 refine ac_as 0 Imp.sl ?_
 repeat' first|refine Zz ?_|intro _
 rw [<- fin_do]
 unfold finQ
 by_cases h:(doQ d x h t).2.e=0
 ·rw [if_pos h,dZ (nni h)]
  repeat' first|refine Zz ?_|intro _
  refine reE ?_
  rfl
 ·rw [if_neg h,dT h]
  repeat' first|refine Zz ?_|intro _
  refine reE ?_
  rfl⟩
end Go.Proofs.YtlmcongmglfaeaaGreatDoor

namespace Go.Proofs.YtlmcongmglfaeaaGreatDoor
open Go Go.RowKit Tw Av
def xF:TxX:=⟨1,[],[],[],[],[],0,⟨[],0,0,zeroH⟩,zeroH,⟨0,[],[],[120],⟨5,by decide⟩,[],[97],0,0⟩,[],0,⟨0,0,[]⟩,⟨0,[],[],⟨0,0,[]⟩,⟨0,0,[]⟩⟩⟩
def xS:TxX:=⟨13,[],[],[],[],[],0,⟨[],0,0,zeroH⟩,zeroH,⟨0,[],[],[120],⟨5,by decide⟩,[],[97],0,0⟩,[],0,⟨0,0,[]⟩,⟨0,[],[],⟨0,0,[]⟩,⟨0,0,[]⟩⟩⟩
def dF:List Ent:=[⟨balK [97] [120],beB 5⟩,⟨totK [120],beB 5⟩]
theorem do_F:doR [] xF 1 1=(dF,rep0):=by kernel_rfl
theorem dF_ok:DOk dF:=⟨by simp [Srt,dF];decide,by intro x hx;simp [dF] at hx;rcases hx with rfl|rfl <;> decide,by decide⟩
theorem do_S:(doR dF xS 1 1).2=repE 12:=by kernel_rfl
theorem bal_F:(getW dF (balK [97] [120]))=⟨5,by decide⟩:=by kernel_rfl
theorem xF_b:TxB xF:=⟨by decide,by decide,by decide,by decide,by decide,by decide,by decide,by decide,by decide,by decide,by decide,by decide,by decide,by decide,by decide⟩
theorem xS_b:TxB xS:=⟨by decide,by decide,by decide,by decide,by decide,by decide,by decide,by decide,by decide,by decide,by decide,by decide,by decide,by decide,by decide⟩
attribute [local irreducible] doR
end Go.Proofs.YtlmcongmglfaeaaGreatDoor

namespace Go.Proofs.YtlmcongmglfaeaaGreatDoor
open Go Go.RowKit Tw Av
def K18 (k:Int):Prop:=k=1\/k=13
attribute [local irreducible] doR callV fundR sndR
set_option maxHeartbeats 4000000 in
theorem fnCoDo18 {d:List Ent}{h t:Int}{x:TxX}:Ans Tryz.prog GL 10 [.agg 1 [.sl 2 (d.map entA) none],txA x,int h,int t] (DOk d/\TxB x/\K18 x.k) (.tup [dA (doR d x h t).1,repA (doR d x h t).2]):=⟨fun hp=>by
 obtain⟨hd,hb,hk⟩:=hp
 have hq:DOk d/\TxB x:=⟨hd,hb⟩
 refine qE Tryz.func10 rfl Tryz.ntmps10 rfl (fun _ hs=>?_)
 repeat' first|refine Zz ?_|intro _
 rcases hk with h|h
 ·rw [h,call1,do1 h]
  repeat' first|refine Zz ?_|intro _
  refine al_fnNF (by kernel_rfl) ?_
  repeat' first|refine Zz ?_|intro _
  refine reE ?_
  rfl
 ·rw [h,call13,do13 h]
  repeat' first|refine Zz ?_|intro _
  refine al_fnNF (by kernel_rfl) ?_
  repeat' first|refine Zz ?_|intro _
  refine reE ?_
  rfl⟩
set_option maxRecDepth 100000 in
set_option maxHeartbeats 2000000 in
instance fnAwake18z:Ans Tryz.prog GL 7 [] True (boo true):=⟨fun _=>by
 haveI hDoI:∀ {d:List Ent} {h t:Int} {x:TxX},Ans Tryz.prog GL 10 [.agg 1 [.sl 2 (d.map entA) none],txA x,int h,int t] (DOk d/\TxB x/\K18 x.k) (.tup [dA (doR d x h t).1,repA (doR d x h t).2]):=fnCoDo18
 refine qE Tryz.func7 rfl Tryz.ntmps7 rfl (fun _ hs=>?_)
 repeat' first|refine Zz ?_|intro _
 refine al_as 13 (v':=dA []) (show Imp (.agg 1 [.lit (.slice none 0 0)]) (.agg 1 [.sl 2 [] none]) from ImpR.imp) ?_
 refine al_as 14 (v':=txA xF) ?_ ?_
 ·show Imp _ (.agg 100 [int 1,str [],str [],str [],str [],str [],int 0,.agg 35 [str [],int 0,int 0,hA zeroH],hA zeroH,.agg 12 [int 0,str [],str [],.agg 7 [str [120],.agg 4 [.lit (.int .u64 5),.lit (.int .u64 0),.lit (.int .u64 0),.lit (.int .u64 0)],str [],str [97]],int 0,int 0],str [],int 0,.agg 3 [int 0,int 0,.sl 32 [] none],.agg 9 [int 0,.sl 2 [] none,.sl 2 [] none,.agg 3 [int 0,int 0,.sl 32 [] none],.agg 3 [int 0,int 0,.sl 32 [] none]]])
  exact ImpR.imp
 have hp:DOk []/\TxB xF/\K18 xF.k:=⟨.nil,xF_b,.inl rfl⟩
 refine al_callI [.agg 1 [.sl 2 (([]:List Ent).map entA) none],txA xF,int 1,int 1] (hc:=hDoI) (hp:=hp) ?_
 rw [do_F]
 repeat' first|refine Zz ?_|intro _
 refine al_as 21 (v':=txA xS) ?_ ?_
 ·show Imp _ (.agg 100 [int 13,str [],str [],str [],str [],str [],int 0,.agg 35 [str [],int 0,int 0,hA zeroH],hA zeroH,.agg 12 [int 0,str [],str [],.agg 7 [str [120],.agg 4 [.lit (.int .u64 5),.lit (.int .u64 0),.lit (.int .u64 0),.lit (.int .u64 0)],str [],str [97]],int 0,int 0],str [],int 0,.agg 3 [int 0,int 0,.sl 32 [] none],.agg 9 [int 0,.sl 2 [] none,.sl 2 [] none,.agg 3 [int 0,int 0,.sl 32 [] none],.agg 3 [int 0,int 0,.sl 32 [] none]]])
  exact ImpR.imp
 have hp2:DOk dF/\TxB xS/\K18 xS.k:=⟨dF_ok,xS_b,.inr rfl⟩
 have hp3:=dF_ok
 have hp4:dF.length=2:=rfl
 refine al_callI [.agg 1 [.sl 2 (dF.map entA) none],txA xS,int 1,int 1] (hc:=hDoI) (hp:=hp2) ?_
 rw [do_S]
 repeat' first|refine Zz ?_|intro _
 rw [bal_F]
 repeat' first|refine Zz ?_|intro _
 refine reE ?_
 rfl⟩
end Go.Proofs.YtlmcongmglfaeaaGreatDoor

namespace Go.Proofs.YtlmcongmglfaeaaGreatDoor
open Go Go.RowKit Tw Av
theorem wTx_b {N:Nat}{a b:SideX}{s:StpX}(hN:N<=1000)(ha:SOk N a)(hb:SOk N b):TxB (wTx a b s):=by
 unfold wTx
 split
 ·exact txX_b hb ha hN _ _
 ·exact txX_b ha hb hN _ _
theorem wTx_pk {N:Nat}{a b:SideX}{s:StpX}(hN:N<=1000)(ha:SOk N a)(hb:SOk N b):PkB (wTx a b s).x:=by
 unfold wTx
 split
 ·exact txX_pk hb ha hN _ _
 ·exact txX_pk ha hb hN _ _
section
variable {P:Program} {N:Nat} {Q:Exit->Act->World->Prop} {s:Av.Base} {e:Av.Env}
end
attribute [local instance] fnCoDo18
end Go.Proofs.YtlmcongmglfaeaaGreatDoor

namespace Go.Proofs.YtlmcongmglfaeaaGreatDoor
open Go Go.RowKit Tw Av
instance fnShort18 {s:Bs}{n:Int}:Ans Tryz.prog GL 16 [str s,int n] (0<=n) (str (s.take n.toNat)):=⟨fun hn=>by
 refine qE Tryz.func16 rfl Tryz.ntmps16 rfl (fun _ hs=>?_)
 repeat' first|refine Vz ?_|intro _
 refine ac_cond (fun h1=>?_) (fun h1=>?_)
 ·repeat' first|refine Vz ?_|intro _
  refine al_sliceS 0 n.toNat ?_
  repeat' first|refine Vz ?_|intro _
  refine reE ?_
  rfl
 ·repeat' first|refine Vz ?_|intro _
  refine reE ?_
  rw [List.take_of_length_le (by omega)]
  rfl⟩
end Go.Proofs.YtlmcongmglfaeaaGreatDoor
