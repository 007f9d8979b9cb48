/- law BlockRuns -/
import Derived.Test.YtmadjfemenlamaaGreatDoorA40
import Derived.Test.YtmadjfemenlamaaGreatDoorA42
import Derived.Test.YtmadjfemenlamaaGreatDoorA47
import Derived.Test.YtmadjfemenlamaaGreatDoorA51
namespace Go.Proofs.YtmadjfemenlamaaGreatDoor
open Go Go.RowKit Tw Av
attribute [local irreducible] clB enB
theorem part_len {s:Bs}(h:partB s=true):s.length≤32:=by
 unfold partB at h
 rw [Bool.and_eq_true,decide_eq_true_iff] at h
 exact h.2.2
theorem red_len (s:Bs):(redV s).o.length≤32∧(redV s).q.length≤32∧(redV s).p.length≤32∧(redV s).s≤4:=by
 unfold redV
 split
 ·rename_i h
  unfold reOk at h
  rw [Bool.and_eq_true] at h
  have h:=h.2
  unfold chkE at h
  simp only [Bool.and_eq_true,decide_eq_true_eq] at h
  obtain⟨h1,h2,h3,h4⟩:=h
  refine⟨part_len h2,part_len h3,?_,h1.2⟩
  split at h4
  ·rw [of_decide_eq_true h4]
   simp
  ·exact part_len h4
 ·decide
theorem en_len (d:List Ent)(k i:Bs):(enR d k i).o.length≤32∧(enR d k i).q.length≤32∧(enR d k i).p.length≤32∧(enR d k i).s≤4:=red_len _
instance fnR18UnderH {d:List Ent}{o:Bs}{xs:List AV}{id:Option Value}[hx:Ents xs d]:Ans Tryz.prog GL 195 [.sl 2 xs id,str [72],str o] (DOk d) (.tup [str (enR d [75] o).o,boo (enB d [75] o)]):=⟨fun hd=>by
 refine spec_enter Tryz.func195 rfl Tryz.ntmps195 rfl (fun _ hs=>?_)
 repeat' first|refine Zz ?_|intro _
 refine reE ?_
 rfl⟩
end Go.Proofs.YtmadjfemenlamaaGreatDoor

namespace Go.Proofs.YtmadjfemenlamaaGreatDoor
open Go Go.RowKit Tw Av
def sndS (d:List Ent)(x:Pkt):Out18:=pQ (sendR d (goes d x)).1 (kyW [80] x.s (goes d x).q) (comP (goes d x))
def sndT (d:List Ent)(x:Pkt):Out18:=pQ (sndS d x).1 (kyO [78] x.s) (tlvI 110 ((goes d x).q + 1))
def sndQ (d:List Ent)(x:Pkt):Out18:=
 if enB d [72] x.s=false then fQ 12 else if (enR d [72] x.s).s≠3 then fQ 13 else if chkP (goes d x)=false then fQ 1
 else if chaK d x.s=false∨clB d (chaN d x.s)=false then fQ 12
 else if lateP (goes d x) (latC (clR d (chaN d x.s)).l).h (latC (clR d (chaN d x.s)).l).t=true then fQ 21
 else if (sendR d (goes d x)).2≠0 then fQ (sendR d (goes d x)).2
 else if (sndS d x).2.e≠0 then sndS d x else if (sndT d x).2.e≠0 then sndT d x else ((sndT d x).1,⟨(sndT d x).2.e,(goes d x).q,(sndT d x).2.a⟩)
theorem pQ_yes {d:List Ent}{k v:Bs}(h:(putR d k v).2=0):pQ d k v=((putR d k v).1,rep0):=by
 unfold pQ
 rw [if_pos h]
theorem pQ_no {d:List Ent}{k v:Bs}(h:(putR d k v).2≠0):pQ d k v=fQ (putR d k v).2:=by
 unfold pQ
 rw [if_neg h]
theorem fin_id {d:List Ent}{q:Out18}(h:q.2.e=0):finQ d q=q:=by
 unfold finQ
 rw [if_pos h]
theorem cha_no {d:List Ent}{i:Bs}{A:EndX→Bool}(h:enB d [72] i=false):chaE d i A=12:=by
 unfold chaE
 rw [if_pos h]
theorem cha_st {d:List Ent}{i:Bs}{A:EndX→Bool}(h:enB d [72] i=true)(h2:(enR d [72] i).s≠3∨A (enR d [72] i)=false):chaE d i A=13:=by
 unfold chaE
 rw [if_neg (by rw [h];decide),if_pos h2]
theorem cha_ok {d:List Ent}{i:Bs}{A:EndX→Bool}(h:enB d [72] i=true)(h2:¬ ((enR d [72] i).s≠3∨A (enR d [72] i)=false)):chaE d i A=0:=by
 unfold chaE
 rw [if_neg (by rw [h];decide),if_neg h2]
theorem fin_snd {d:List Ent}{x:Pkt}:finQ d (sndQ d x)=sndR d x:=by
 unfold sndQ sndR
 cases h1:enB d [72] x.s
 ·rw [if_pos rfl,cha_no h1,if_pos (show (12:Int)≠0 by decide)]
  exact fin_f (by decide)
 rw [if_neg (show ¬ true=false by decide)]
 by_cases h2:(enR d [72] x.s).s=3
 rotate_left
 ·rw [if_pos h2,cha_st h1 (.inl h2),if_pos (show (13:Int)≠0 by decide)]
  exact fin_f (by decide)
 rw [if_neg (not_not_intro h2),cha_ok h1 (show ¬ ((enR d [72] x.s).s≠3∨true=false) by simp [h2])]
 rw [if_neg (show ¬ (0:Int)≠0 by decide)]
 split
 ·exact fin_f (by decide)
 split
 ·exact fin_f (by decide)
 split
 ·exact fin_f (by decide)
 unfold thenR
 dsimp only
 by_cases h3:(sendR d (goes d x)).2=0
 rotate_left
 ·rw [if_pos h3,if_neg h3,fin_f h3]
  unfold tellR
  rw [if_neg h3]
 rw [if_neg (not_not_intro h3),if_pos h3]
 unfold sndT
 by_cases h4:(putR (sendR d (goes d x)).1 (kyW [80] x.s (goes d x).q) (comP (goes d x))).2=0
 rotate_left
 ·have e:sndS d x=fQ _:=pQ_no h4
  rw [e,if_pos (show (fQ _).2.e≠0 from h4),if_neg h4,fin_f h4]
  unfold tellR
  rw [if_neg h4]
 have e:sndS d x=_:=pQ_yes h4
 rw [e,if_neg (show ¬ rep0.e≠0 from fun h=>h rfl),if_pos h4]
 dsimp only
 by_cases h5:(putR (putR (sendR d (goes d x)).1 (kyW [80] x.s (goes d x).q) (comP (goes d x))).1 (kyO [78] x.s) (tlvI 110 ((goes d x).q + 1))).2=0
 rotate_left
 ·rw [pQ_no h5,if_pos (show (fQ _).2.e≠0 from h5),fin_f h5]
  unfold tellR
  rw [if_neg h5]
 rw [pQ_yes h5,if_neg (show ¬ rep0.e≠0 from fun h=>h rfl),fin_id rfl]
 unfold tellR
 rw [if_pos h5]
 rfl
def rcvP (d:List Ent)(x:TxX):Out18:=pQ (if (recvR d x.x).2=0 then (recvR d x.x).1 else d) (kyW [71] x.x.k x.x.q) (rcpB (ackR d x.x))
def rcvQ (d:List Ent)(x:TxX)(h t:Int):Out18:=
 if chkP x.x=false then fQ 1 else if enB d [72] x.x.k=false then fQ 12 else if (enR d [72] x.x.k).s≠3∨(enR d [72] x.x.k).p≠x.x.s then fQ 13
 else if lateP x.x h t=true then fQ 21 else if (gO d (kyW [71] x.x.k x.x.q)).isSome=true then fQ 20 else if chaK d x.x.k=false then fQ 12
 else if prE d (chaN d x.x.k) x.t t (kyW [80] x.x.s x.x.q) (comP x.x) x.f≠0 then fQ (prE d (chaN d x.x.k) x.t t (kyW [80] x.x.s x.x.q) (comP x.x) x.f)
 else ((rcvP d x).1,⟨(rcvP d x).2.e,(rcvP d x).2.q,ackR d x.x⟩)
theorem fin_rcv {d:List Ent}{x:TxX}{h t:Int}:finQ d (rcvQ d x h t)=rcvR d x h t:=by
 unfold rcvQ rcvR
 split
 ·exact fin_f (by decide)
 cases h1:enB d [72] x.x.k
 ·rw [if_pos rfl,cha_no h1,if_pos (show (12:Int)≠0 by decide)]
  exact fin_f (by decide)
 rw [if_neg (show ¬ true=false by decide)]
 by_cases h2:(enR d [72] x.x.k).s≠3∨(enR d [72] x.x.k).p≠x.x.s
 ·rw [if_pos h2,cha_st h1 (by rcases h2 with h2|h2;exact .inl h2;exact .inr (decide_eq_false h2)),if_pos (show (13:Int)≠0 by decide)]
  exact fin_f (by decide)
 rw [if_neg h2,cha_ok h1 (show ¬ ((enR d [72] x.x.k).s≠3∨decide ((enR d [72] x.x.k).p=x.x.s)=false) from fun e=>h2 (by rcases e with e|e;exact .inl e;exact .inr (of_decide_eq_false e)))]
 rw [if_neg (show ¬ (0:Int)≠0 by decide)]
 split
 ·exact fin_f (by decide)
 split
 ·exact fin_f (by decide)
 split
 ·exact fin_f (by decide)
 split
 ·rename_i h3
  exact fin_f h3
 unfold rcvP
 by_cases h5:(putR (if (recvR d x.x).2=0 then (recvR d x.x).1 else d) (kyW [71] x.x.k x.x.q) (rcpB (ackR d x.x))).2=0
 ·rw [pQ_yes h5,fin_id rfl]
  unfold tellR
  rw [if_pos h5]
  rfl
 ·rw [pQ_no h5]
  unfold tellR finQ
  rw [if_neg h5,if_neg (show ¬ (fQ _).2.e=0 from h5)]
  rfl
def endP (d:List Ent)(x:Pkt)(b:Bool)(e:Int):Out18:=
 if enB d [72] x.s=false then fQ 12 else if (enR d [72] x.s).s≠3∨(enR d [72] x.s).p≠x.k then fQ 13
 else if gO d (kyW [80] x.s x.q)≠some (comP x) then fQ 12 else if chaK d x.s=false then fQ 12
 else if e≠0 then fQ e else if b=true∧(backR d x).2≠0 then fQ (backR d x).2
 else (drpL (if b=true then (backR d x).1 else d) (kyW [80] x.s x.q),rep0)
theorem fin_end {d:List Ent}{x:Pkt}{b:Bool}{e:Int}:finQ d (endP d x b e)=endR d x b e:=by
 unfold endP endR
 cases h1:enB d [72] x.s
 ·rw [if_pos rfl,cha_no h1,if_pos (show (12:Int)≠0 by decide)]
  exact fin_f (by decide)
 rw [if_neg (show ¬ true=false by decide)]
 by_cases h2:(enR d [72] x.s).s≠3∨(enR d [72] x.s).p≠x.k
 ·rw [if_pos h2,cha_st h1 (by rcases h2 with h2|h2;exact .inl h2;exact .inr (decide_eq_false h2)),if_pos (show (13:Int)≠0 by decide)]
  exact fin_f (by decide)
 rw [if_neg h2,cha_ok h1 (show ¬ ((enR d [72] x.s).s≠3∨decide ((enR d [72] x.s).p=x.k)=false) from fun e=>h2 (by rcases e with e|e;exact .inl e;exact .inr (of_decide_eq_false e)))]
 rw [if_neg (show ¬ (0:Int)≠0 by decide)]
 by_cases h3:gO d (kyW [80] x.s x.q)=some (comP x)
 rotate_left
 ·rw [if_pos h3,if_pos (.inl h3)]
  exact fin_f (by decide)
 rw [if_neg (not_not_intro h3)]
 cases h4:chaK d x.s
 ·rw [if_pos rfl,if_pos (.inr rfl)]
  exact fin_f (by decide)
 rw [if_neg (show ¬ true=false by decide),if_neg (show ¬ (gO d (kyW [80] x.s x.q)≠some (comP x)∨true=false) by simp [h3])]
 split
 ·rename_i h5
  exact fin_f h5
 split
 ·rename_i h5
  exact fin_f h5.2
 exact fin_id rfl
def edB (x:TxX):Bool:=if x.k=15 then decide (ackV x.a≠0) else true
def edE (d:List Ent)(x:TxX)(t:Int):Int:=if x.k=15 then prE d (chaN d x.x.s) x.t t (kyW [71] x.x.k x.x.q) (rcpB x.a) x.f else timE d x t
def endQ (d:List Ent)(x:TxX)(t:Int):Out18:=if chkP x.x=false∨(x.k=15∧ackIs x.a=false) then fQ 1 else endP d x.x (edB x) (edE d x t)
theorem fin_ack {d:List Ent}{x:TxX}{t:Int}(h:x.k=15):finQ d (endQ d x t)=acksR d x t:=by
 unfold endQ acksR
 by_cases h1:chkP x.x=false∨ackIs x.a=false
 ·rw [if_pos h1,if_pos (by rcases h1 with h1|h1;exact .inl h1;exact .inr ⟨h,h1⟩)]
  exact fin_f (by decide)
 ·rw [if_neg h1,if_neg (fun e=>h1 (by rcases e with e|e;exact .inl e;exact .inr e.2)),edB,edE,if_pos h,if_pos h]
  exact fin_end
theorem fin_tim {d:List Ent}{x:TxX}{t:Int}(h:x.k=16):finQ d (endQ d x t)=timR d x t:=by
 have hn:¬ x.k=15:=by rw [h];decide
 unfold endQ timR
 by_cases h1:chkP x.x=false
 ·rw [if_pos h1,if_pos (.inl h1)]
  exact fin_f (by decide)
 ·rw [if_neg h1,if_neg (fun e=>by rcases e with e|e;exact h1 e;exact hn e.1),edB,edE,if_neg hn,if_neg hn]
  exact fin_end
def doQ (d:List Ent)(x:TxX)(h t:Int):Out18:=
 if x.k=1∨x.k=2 then coinQ d x else if x.k=3∨x.k=4 then cliQ d x t else if x.k=5∨x.k=6 then begK d x (decide (x.k=6)) t else if x.k=9∨x.k=10 then begH d x (decide (x.k=10)) t
 else if x.k=7∨x.k=8 then opnK d x (decide (x.k=7)) t else if x.k=11∨x.k=12 then opnH d x (decide (x.k=11)) t else if x.k=13 then sndQ d x.x else if x.k=14 then rcvQ d x h t else if x.k=15∨x.k=16 then endQ d x t else fQ 1
theorem fin_do {d:List Ent}{x:TxX}{h t:Int}:finQ d (doQ d x h t)=doR d x h t:=by
 unfold doQ doR
 by_cases h1:x.k=1
 ·rw [if_pos (.inl h1),if_pos h1]
  exact fin_fund h1
 rw [if_neg h1]
 by_cases h2:x.k=2
 ·rw [if_pos (.inr h2),if_pos h2]
  exact fin_move h2
 rw [if_neg h2,if_neg (show ¬ (x.k=1∨x.k=2) by omega)]
 by_cases h3:x.k=3
 ·rw [if_pos (.inl h3),if_pos h3]
  exact fin_cre h3
 rw [if_neg h3]
 by_cases h4:x.k=4
 ·rw [if_pos (.inr h4),if_pos h4]
  exact fin_upd h4
 rw [if_neg h4,if_neg (show ¬ (x.k=3∨x.k=4) by omega)]
 by_cases h5:x.k=5∨x.k=6
 ·rw [if_pos h5,if_pos h5]
  exact fin_con
 rw [if_neg h5,if_neg h5]
 by_cases h6:x.k=7∨x.k=8
 ·rw [if_neg (show ¬ (x.k=9∨x.k=10) by omega),if_pos h6,if_pos h6]
  exact fin_cod
 rw [if_neg h6,if_neg h6]
 by_cases h7:x.k=9∨x.k=10
 ·rw [if_pos h7,if_pos h7]
  exact fin_opn
 rw [if_neg h7,if_neg h7]
 by_cases h8:x.k=11∨x.k=12
 ·rw [if_pos h8,if_pos h8]
  exact fin_opd
 rw [if_neg h8,if_neg h8]
 by_cases h9:x.k=13
 ·rw [if_pos h9,if_pos h9]
  exact fin_snd
 rw [if_neg h9,if_neg h9]
 by_cases h10:x.k=14
 ·rw [if_pos h10,if_pos h10]
  exact fin_rcv
 rw [if_neg h10,if_neg h10]
 by_cases h11:x.k=15
 ·rw [if_pos (.inl h11),if_pos h11]
  exact fin_ack h11
 rw [if_neg h11]
 by_cases h12:x.k=16
 ·rw [if_pos (.inr h12),if_pos h12]
  exact fin_tim h12
 rw [if_neg h12,if_neg (show ¬ (x.k=15∨x.k=16) by omega)]
 exact fin_f (by decide)
end Go.Proofs.YtmadjfemenlamaaGreatDoor

namespace Go.Proofs.YtmadjfemenlamaaGreatDoor
open Go Go.RowKit Tw Av
attribute [local irreducible] clB enB lateP
theorem pQ_dok {d:List Ent}{k v:Bs}(h:DOk d):DOk (pQ d k v).1:=by
 unfold pQ
 split
 ·exact putR_dok h
 ·exact .nil
set_option maxHeartbeats 4000000 in
instance fnR18Send {d:List Ent}{x:TxX}{xs:List AV}{id:Option Value}[hx:Ents xs d]:Ans Tryz.prog GL 114 [.sl 2 xs id,txA x] (DOk d∧TxB x) (qA (sndQ d x.x)):=⟨fun hp=>by
 obtain⟨hd,hb⟩:=hp
 have b1:=hb.d
 have b2:=hb.s
 have b3:=hb.f
 have b4:=hb.g
 obtain⟨l1,l2,l3,l4⟩:=en_len d [72] x.x.s
 refine spec_enter Tryz.func114 rfl Tryz.ntmps114 rfl (fun _ hs=>?_)
 repeat' first|refine Zz ?_|intro _
 unfold sndQ sndT sndS goes chaK chaN
 dsimp only
 cases h0:enB d [72] x.x.s
 ·rw [if_pos rfl]
  repeat' first|refine Zz ?_|intro _
  refine reE ?_
  rfl
 rw [if_neg (show ¬ true=false by decide)]
 repeat' first|refine Zz ?_|intro _
 by_cases h1:(enR d [72] x.x.s).s=3
 rotate_left
 ·rw [if_pos h1,decide_eq_true h1]
  repeat' first|refine Zz ?_|intro _
  refine reE ?_
  rfl
 rw [if_neg (not_not_intro h1),decide_eq_false (not_not_intro h1)]
 repeat' first|refine Zz ?_|intro _
 unfold chkN
 cases h2:chkP ⟨nxR d x.x.s,x.x.s,(enR d [72] x.x.s).p,x.x.d,x.x.a,x.x.f,x.x.g,x.x.h,x.x.t⟩
 ·rw [if_pos rfl,if_neg (show ¬ false=true by decide),decide_eq_true (show (1:Int)≠0 by decide)]
  repeat' first|refine Zz ?_|intro _
  refine reE ?_
  rfl
 rw [if_neg (show ¬ true=false by decide),if_pos rfl,decide_eq_false (show ¬ (0:Int)≠0 by decide)]
 repeat' first|refine Zz ?_|intro _
 cases h3:enB d [75] (enR d [72] x.x.s).o
 ·rw [if_pos (.inl rfl)]
  repeat' first|refine Zz ?_|intro _
  refine reE ?_
  rfl
 repeat' first|refine Zz ?_|intro _
 cases h4:clB d (enR d [75] (enR d [72] x.x.s).o).o
 ·rw [if_pos (.inr rfl)]
  repeat' first|refine Zz ?_|intro _
  refine reE ?_
  rfl
 rw [if_neg (show ¬ (true=false∨true=false) by decide)]
 repeat' first|refine Zz ?_|intro _
 cases h5:lateP ⟨nxR d x.x.s,x.x.s,(enR d [72] x.x.s).p,x.x.d,x.x.a,x.x.f,x.x.g,x.x.h,x.x.t⟩ (latC (clR d (enR d [75] (enR d [72] x.x.s).o).o).l).h (latC (clR d (enR d [75] (enR d [72] x.x.s).o).o).l).t
 rotate_left
 ·rw [if_pos rfl]
  repeat' first|refine Zz ?_|intro _
  refine reE ?_
  rfl
 rw [if_neg (show ¬ false=true by decide)]
 have q1:DOk d∧x.x.s.length≤1000000000∧(enR d [72] x.x.s).p.length≤1000000000∧x.x.d.length≤1000000000∧x.x.f.length≤1000000000∧x.x.g.length≤1000000000:=⟨hd,by omega,by omega,by omega,by omega,by omega⟩
 obtain⟨q3,q4,q5,q8⟩:nxR d x.x.s≤1099511627776∧x.x.h≤1099511627776∧x.x.t≤1099511627776∧1≤nxR d x.x.s:=nums_le h2
 have q6:DOk (sendR d ⟨nxR d x.x.s,x.x.s,(enR d [72] x.x.s).p,x.x.d,x.x.a,x.x.f,x.x.g,x.x.h,x.x.t⟩).1:=sendR_dok hd
 have q7:DOk (pQ (sendR d ⟨nxR d x.x.s,x.x.s,(enR d [72] x.x.s).p,x.x.d,x.x.a,x.x.f,x.x.g,x.x.h,x.x.t⟩).1 (kyW [80] x.x.s (nxR d x.x.s)) (comP ⟨nxR d x.x.s,x.x.s,(enR d [72] x.x.s).p,x.x.d,x.x.a,x.x.f,x.x.g,x.x.h,x.x.t⟩)).1:=pQ_dok q6
 repeat' first|refine Zz ?_|intro _
 by_cases h6:(sendR d ⟨nxR d x.x.s,x.x.s,(enR d [72] x.x.s).p,x.x.d,x.x.a,x.x.f,x.x.g,x.x.h,x.x.t⟩).2=0
 rotate_left
 ·rw [if_pos h6,decide_eq_true h6]
  repeat' first|refine Zz ?_|intro _
  refine reE ?_
  rfl
 rw [if_neg (not_not_intro h6),decide_eq_false (not_not_intro h6)]
 repeat' first|refine Zz ?_|intro _
 by_cases h7:(pQ (sendR d ⟨nxR d x.x.s,x.x.s,(enR d [72] x.x.s).p,x.x.d,x.x.a,x.x.f,x.x.g,x.x.h,x.x.t⟩).1 (kyW [80] x.x.s (nxR d x.x.s)) (comP ⟨nxR d x.x.s,x.x.s,(enR d [72] x.x.s).p,x.x.d,x.x.a,x.x.f,x.x.g,x.x.h,x.x.t⟩)).2.e=0
 rotate_left
 ·rw [if_pos h7,decide_eq_true h7]
  repeat' first|refine Zz ?_|intro _
  refine reE ?_
  rfl
 rw [if_neg (not_not_intro h7),decide_eq_false (not_not_intro h7)]
 repeat' first|refine Zz ?_|intro _
 by_cases h8:(pQ (pQ (sendR d ⟨nxR d x.x.s,x.x.s,(enR d [72] x.x.s).p,x.x.d,x.x.a,x.x.f,x.x.g,x.x.h,x.x.t⟩).1 (kyW [80] x.x.s (nxR d x.x.s)) (comP ⟨nxR d x.x.s,x.x.s,(enR d [72] x.x.s).p,x.x.d,x.x.a,x.x.f,x.x.g,x.x.h,x.x.t⟩)).1 (kyO [78] x.x.s) (tlvI 110 (nxR d x.x.s + 1))).2.e=0
 rotate_left
 ·rw [if_pos h8,decide_eq_true h8]
  repeat' first|refine Zz ?_|intro _
  refine reE ?_
  rfl
 rw [if_neg (not_not_intro h8),decide_eq_false (not_not_intro h8)]
 repeat' first|refine Zz ?_|intro _
 refine reE ?_
 rfl⟩
set_option maxHeartbeats 4000000 in
instance fnR18Recv {d:List Ent}{h t:Int}{x:TxX}{xs:List AV}{id:Option Value}[hx:Ents xs d]:Ans Tryz.prog GL 115 [.sl 2 xs id,txA x,int h,int t] (DOk d∧TxB x) (qA (rcvQ d x h t)):=⟨fun hp=>by
 obtain⟨hd,hb⟩:=hp
 have b1:=hb.d
 have b2:=hb.s
 have b3:=hb.f
 have b4:=hb.g
 have b5:=hb.k
 have b6:DOk d∧x.f.m≤9223372036854775807:=⟨hd,hb.fm⟩
 obtain⟨l1,l2,l3,l4⟩:=en_len d [72] x.x.k
 have h':=hx.out
 subst h'
 refine spec_enter Tryz.func115 rfl Tryz.ntmps115 rfl (fun _ hs=>?_)
 repeat' first|refine Zz ?_|intro _
 unfold rcvQ rcvP chkN chaK chaN
 cases h2:chkP x.x
 ·rw [if_pos rfl,if_neg (show ¬ false=true by decide),decide_eq_true (show (1:Int)≠0 by decide)]
  repeat' first|refine Zz ?_|intro _
  refine reE ?_
  rfl
 rw [if_neg (show ¬ true=false by decide),if_pos rfl,decide_eq_false (show ¬ (0:Int)≠0 by decide)]
 obtain⟨q3,q4,q5,q8⟩:=nums_le h2
 repeat' first|refine Zz ?_|intro _
 cases h0:enB d [72] x.x.k
 ·rw [if_pos rfl]
  repeat' first|refine Zz ?_|intro _
  refine reE ?_
  rfl
 rw [if_neg (show ¬ true=false by decide)]
 repeat' first|refine Zz ?_|intro _
 by_cases h1:(enR d [72] x.x.k).s=3
 rotate_left
 ·rw [if_pos (.inl h1),decide_eq_true h1]
  repeat' first|refine Zz ?_|intro _
  refine reE ?_
  rfl
 rw [decide_eq_false (not_not_intro h1)]
 repeat' first|refine Zz ?_|intro _
 by_cases h1':(enR d [72] x.x.k).p=x.x.s
 rotate_left
 ·rw [if_pos (.inr h1'),decide_eq_true h1']
  repeat' first|refine Zz ?_|intro _
  refine reE ?_
  rfl
 rw [if_neg (show ¬ ((enR d [72] x.x.k).s≠3∨(enR d [72] x.x.k).p≠x.x.s) by simp [h1,h1']),decide_eq_false (not_not_intro h1')]
 repeat' first|refine Zz ?_|intro _
 cases h3:lateP x.x h t
 rotate_left
 ·rw [if_pos rfl]
  repeat' first|refine Zz ?_|intro _
  refine reE ?_
  rfl
 rw [if_neg (show ¬ false=true by decide)]
 repeat' first|refine Zz ?_|intro _
 cases h4:(gO d (kyW [71] x.x.k x.x.q)).isSome
 rotate_left
 ·rw [if_pos rfl]
  repeat' first|refine Zz ?_|intro _
  refine reE ?_
  rfl
 rw [if_neg (show ¬ false=true by decide)]
 repeat' first|refine Zz ?_|intro _
 cases h5:enB d [75] (enR d [72] x.x.k).o
 ·rw [if_pos rfl]
  repeat' first|refine Zz ?_|intro _
  refine reE ?_
  rfl
 rw [if_neg (show ¬ true=false by decide)]
 repeat' first|refine Zz ?_|intro _
 by_cases h6:prE d (enR d [75] (enR d [72] x.x.k).o).o x.t t (kyW [80] x.x.s x.x.q) (comP x.x) x.f=0
 rotate_left
 ·rw [if_pos h6,decide_eq_true h6]
  repeat' first|refine Zz ?_|intro _
  refine reE ?_
  rfl
 rw [if_neg (not_not_intro h6),decide_eq_false (not_not_intro h6)]
 have p5:DOk d∧x.x.s.length≤400000000∧x.x.k.length≤400000000∧x.x.d.length≤400000000∧x.x.f.length≤400000000∧x.x.g.length≤400000000:=⟨hd,b2,b5,b1,b3,b4⟩
 have q6:DOk (recvR d x.x).1:=recvR_dok hd
 have q7:=recvR_e (d:=d) (x:=x.x)
 unfold ackR
 repeat' first|refine Zz ?_|intro _
 by_cases h7:(recvR d x.x).2=0
 ·rw [if_pos h7,if_pos h7,decide_eq_false (not_not_intro h7)]
  repeat' first|refine Zz ?_|intro _
  refine reE ?_
  rfl
 ·rw [if_neg h7,if_neg h7,decide_eq_true h7]
  have q9:(failB (recvR d x.x).2).length≤1000000000:=by
   unfold failB
   exact (by decide:2≤1000000000)
  repeat' first|refine Zz ?_|intro _
  refine reE ?_
  rfl⟩
end Go.Proofs.YtmadjfemenlamaaGreatDoor

namespace Go.Proofs.YtmadjfemenlamaaGreatDoor
open Go Go.RowKit Tw Av
attribute [local irreducible] clB enB lateP coinQ cliQ begK begH opnK opnH sndQ rcvQ endQ
attribute [local irreducible] doQ
end Go.Proofs.YtmadjfemenlamaaGreatDoor

namespace Go.Proofs.YtmadjfemenlamaaGreatDoor
open Go Go.RowKit Tw Av
attribute [local irreducible] clB enB lateP coinQ cliQ begK begH opnK opnH sndQ rcvQ endQ
set_option maxHeartbeats 4000000 in
theorem fnR18do19 {d:List Ent}{h t:Int}{x:TxX}:Ans Tryz.prog GL 64 [.sl 2 (d.map entA) none,txA x,int h,int t] (DOk d∧TxB x∧K19 x.k) (qA (doQ d x h t)):=⟨fun hp=>by
 obtain⟨hd,hb,hk⟩:=hp
 have hq:DOk d∧TxB x:=⟨hd,hb⟩
 refine spec_enter Tryz.func64 rfl Tryz.ntmps64 rfl (fun _ hs=>?_)
 repeat' first|refine Zz ?_|intro _
 unfold doQ
 rcases hk with h1|h1|h1|h1|h1|h1
 all_goals
  repeat first|rw [if_pos (show x.k=13 from h1)]|rw [if_pos (show x.k=14 from h1)]|rw [if_neg (show ¬ x.k=13 by omega)]|rw [if_pos (show x.k=1∨x.k=2 by omega)]|rw [if_neg (show ¬ (x.k=1∨x.k=2) by omega)]|rw [if_pos (show x.k=3∨x.k=4 by omega)]|rw [if_neg (show ¬ (x.k=3∨x.k=4) by omega)]|rw [if_neg (show ¬ (x.k=5∨x.k=6) by omega)]|rw [if_neg (show ¬ (x.k=9∨x.k=10) by omega)]|rw [if_neg (show ¬ (x.k=7∨x.k=8) by omega)]|rw [if_neg (show ¬ (x.k=11∨x.k=12) by omega)]
  repeat' first|refine Zz ?_|intro _
  refine reE ?_
  rfl⟩
attribute [local irreducible] doQ
theorem fnR18Do19 {d:List Ent}{h t:Int}{x:TxX}:Ans Tryz.prog GL 26 [.sl 2 (d.map entA) none,txA x,int h,int t] (DOk d∧TxB x∧K19 x.k) (.tup [dSl (doR d x h t).1,repA (doR d x h t).2]):=⟨fun hp=>by
 haveI:=@fnR18do19
 refine spec_enter Tryz.func26 rfl Tryz.ntmps26 rfl (fun _ hs=>?_)
 repeat' first|refine Zz ?_|intro _
 rw [← fin_do]
 unfold finQ
 by_cases h:(doQ d x h t).2.e=0
 ·rw [if_pos h,decide_eq_false (not_not_intro h)]
  repeat' first|refine Zz ?_|intro _
  refine reE ?_
  rfl
 ·rw [if_neg h,decide_eq_true h]
  repeat' first|refine Zz ?_|intro _
  refine reE ?_
  rfl⟩
instance impT_nil {k:Nat}:ImpT (.lit (.slice none 0 0)) (.sl k [] (some (.slice none 0 0))):=⟨ImpC.nilT⟩
theorem imp_ran {xs:List AV}:ImpC (.agg 3 [.sl 2 xs none,.lit (.slice none 0 0),.lit (.slice none 0 0)]) (.agg 3 [.sl 2 xs none,.sl 3 [] (some (.slice none 0 0)),.sl 15 [] (some (.slice none 0 0))]):=(inferInstance:ImpT _ _).imp
attribute [local irreducible] doR rtxV rtxE xs0 enR
theorem evR13 {d:List Ent}{h:Int}{x:TxX}{r:Rep}(e:x.k=13):evR d h x r=⟨h,x.k,⟨r.q,x.x.s,(enR d [72] x.x.s).p,x.x.d,x.x.a,x.x.f,x.x.g,x.x.h,x.x.t⟩,[]⟩:=by
 unfold evR
 rw [if_pos e,if_neg (show ¬ x.k=14 by omega),if_neg (show ¬ x.k=15 by omega)]
theorem evR14 {d:List Ent}{h:Int}{x:TxX}{r:Rep}(e:x.k=14):evR d h x r=⟨h,x.k,x.x,r.a⟩:=by
 unfold evR
 rw [if_neg (show ¬ x.k=13 by omega),if_pos e]
theorem evR15 {d:List Ent}{h:Int}{x:TxX}{r:Rep}(e:x.k=15):evR d h x r=⟨h,x.k,x.x,x.a⟩:=by
 unfold evR
 rw [if_neg (show ¬ x.k=13 by omega),if_neg (show ¬ x.k=14 by omega),if_pos e]
theorem evR16 {d:List Ent}{h:Int}{x:TxX}{r:Rep}(e:¬ x.k=13∧¬ x.k=14∧¬ x.k=15):evR d h x r=⟨h,x.k,x.x,[]⟩:=by
 unfold evR
 rw [if_neg e.1,if_neg e.2.1,if_neg e.2.2]
set_option maxRecDepth 100000 in
set_option maxHeartbeats 4000000 in
theorem fnR19RunK {K:Int→Prop}(hDo:∀ {d:List Ent} {h t:Int} {x:TxX},Ans Tryz.prog GL 26 [.sl 2 (d.map entA) none,txA x,int h,int t] (DOk d∧TxB x∧K x.k) (.tup [dSl (doR d x h t).1,repA (doR d x h t).2]))
  {d:List Ent} {l:List Bs} {h t:Int} {xs ys:List AV} {id id2:Option Value} [hx:Ents xs d] [hy:Strs ys l]:Ans Tryz.prog GL 12 [.sl 2 xs id2,.agg 3 [int h,int t,.sl 1 ys id]] (DOk d∧l.length≤1000000∧∀ s ∈ l,s.length≤1000000000∧(rtxE (xs0 s)=0→K (rtxV (xs0 s)).k))
   (.agg 3 [dSl (runR d ⟨h,t,l⟩).1,.sl 3 ((runR d ⟨h,t,l⟩).2.1.map repA) none,.sl 15 ((runR d ⟨h,t,l⟩).2.2.map evA) none]):=⟨fun hp=>by
 obtain⟨hd,hl,hk⟩:=hp
 have h':=hx.out
 subst h'
 have h':=hy.out
 subst h'
 have hm:(l.map str).length=l.length:=List.length_map _
 haveI hDoI:∀ {d:List Ent} {h t:Int} {x:TxX},Ans Tryz.prog GL 26 [.sl 2 (d.map entA) none,txA x,int h,int t] (DOk d∧TxB x∧K x.k) (.tup [dSl (doR d x h t).1,repA (doR d x h t).2]):=hDo
 refine spec_enter Tryz.func12 rfl Tryz.ntmps12 rfl (fun _ hs=>?_)
 refine ac_as 0 Imp.sl ?_
 repeat' first|refine Zz ?_|intro _
 rename_i g3 g4 g5
 refine ac_asV (g:=g5) imp_ran ?_
 refine ac_st (fun ok w h=>h.full 92 15 none 0) ?_
 refine ac_st (fun ok w h=>h.full 74 3 none 0) ?_
 refine ac_loop (α:=Nat × Value × Value) (fun z=>[(3,ptr g3),(4,ptr g4),(5,ptr g5),(6,int z.1)])
  (fun z=>[.tail 74 3 z.2.1,.tail 92 15 z.2.2,.var g5 42 (.agg 3 [dSl (runL h t (d,[],[]) (l.take z.1)).1,.sl 3 ((runL h t (d,[],[]) (l.take z.1)).2.1.map repA) (some z.2.1),.sl 15 ((runL h t (d,[],[]) (l.take z.1)).2.2.map evA) (some z.2.2)]),.var g4 42 (.agg 3 [.lit (.slice none 0 0),.lit (.slice none 0 0),.lit (.slice none 0 0)]),.var g3 30 (.agg 3 [int h,int t,.sl 1 (l.map str) id])])
  (fun z=>z.1≤l.length) (fun z=>l.length - z.1) (0,.slice none 0 0,.slice none 0 0) ⟨rfl,rfl,rfl,rfl,trivial⟩ ?_ (Nat.zero_le _) ?_
 ·exact List.Sublist.refl _
 rintro⟨i,v7,v8⟩ hi
 dsimp only at hi ⊢
 repeat' first|refine Zz ?_|intro _
 refine ac_cond (fun h1=>?_) (fun h1=>?_)
 ·have hil:i < l.length:=by omega
  have hq:=runL_succ (h:=h) (t:=t) (q:=(d,[],[])) hil
  have hdq:DOk (runL h t (d,[],[]) (l.take i)).1:=runL_dok hd
  have hlq:=runL_len (h:=h) (t:=t) (l:=l.take i) (q:=(d,[],[]))
  have hls:l[i].length≤1000000000:=(hk _ (List.getElem_mem hil)).1
  have hkk:=(hk _ (List.getElem_mem hil)).2
  generalize runL h t (d,[],[]) (l.take i)=q at *
  have hl1:q.2.1.length≤1000000:=by
   have:=hlq.1
   simp only [List.length_take,List.length_nil] at this
   omega
  have hl2:q.2.2.length≤1000000:=by
   have:=hlq.2
   simp only [List.length_take,List.length_nil] at this
   omega
  have hm1:(q.2.1.map repA).length=q.2.1.length:=List.length_map _
  have hm2:(q.2.2.map evA).length=q.2.2.length:=List.length_map _
  repeat' first|refine Zz ?_|intro _
  by_cases hE:rtxE (xs0 l[i])=0
  rotate_left
  ·have hq':=hq.trans (runS_no hE)
   repeat' first|refine Zz ?_|intro _
   refine al_append (fun v'=>?_)
   repeat' first|refine Zz ?_|intro _
   refine ae_round (i + 1,v',v8) ⟨rfl,rfl,rfl,rfl,trivial⟩ ?_ hil (by dsimp only;omega)
   dsimp only
   rw [hq',List.map_append]
   exact sbl
  ·rw [hE]
   have hx3:DOk q.1∧TxB (rtxV (xs0 l[i]))∧K (rtxV (xs0 l[i])).k:=⟨hdq,rtxV_b _,hkk hE⟩
   have hdo:DOk (doR q.1 (rtxV (xs0 l[i])) h t).1:=doR_dok hdq
   have hdo2:DOk (doR q.1 (rtxV (xs0 l[i])) h t).1∧([72]:Bs).length≤1000000000:=⟨hdo,by decide⟩
   repeat' first|refine Zz ?_|intro _
   refine al_append (fun v'=>?_)
   repeat' first|refine Zz ?_|intro _
   by_cases h0:(doR q.1 (rtxV (xs0 l[i])) h t).2.e=0
   rotate_left
   ·have hq':=hq.trans (runS_mid hE (fun hh=>h0 hh.1))
    repeat' first|refine Zz ?_|intro _
    refine ae_round (i + 1,v',v8) ⟨rfl,rfl,rfl,rfl,trivial⟩ ?_ hil (by dsimp only;omega)
    dsimp only
    rw [hq',List.map_append]
    exact sbl
   by_cases h1:13≤(rtxV (xs0 l[i])).k
   rotate_left
   ·have hq':=hq.trans (runS_mid hE (fun hh=>h1 hh.2))
    repeat' first|refine Zz ?_|intro _
    refine ae_round (i + 1,v',v8) ⟨rfl,rfl,rfl,rfl,trivial⟩ ?_ hil (by dsimp only;omega)
    dsimp only
    rw [hq',List.map_append]
    exact sbl
   have hq':=hq.trans (runS_yes hE h0 h1)
   by_cases h13:(rtxV (xs0 l[i])).k=13
   ·rw [evR13 h13] at hq'
    repeat' first|refine Zz ?_|intro _
    refine al_append (fun v''=>?_)
    repeat' first|refine Zz ?_|intro _
    refine ae_round (i + 1,v',v'') ⟨rfl,rfl,rfl,rfl,trivial⟩ ?_ hil (by dsimp only;omega)
    dsimp only
    rw [hq',List.map_append,List.map_append]
    exact sbl
   by_cases h14:(rtxV (xs0 l[i])).k=14
   ·rw [evR14 h14] at hq'
    repeat' first|refine Zz ?_|intro _
    refine al_append (fun v''=>?_)
    repeat' first|refine Zz ?_|intro _
    refine ae_round (i + 1,v',v'') ⟨rfl,rfl,rfl,rfl,trivial⟩ ?_ hil (by dsimp only;omega)
    dsimp only
    rw [hq',List.map_append,List.map_append]
    exact sbl
   by_cases h15:(rtxV (xs0 l[i])).k=15
   ·rw [evR15 h15] at hq'
    repeat' first|refine Zz ?_|intro _
    refine al_append (fun v''=>?_)
    repeat' first|refine Zz ?_|intro _
    refine ae_round (i + 1,v',v'') ⟨rfl,rfl,rfl,rfl,trivial⟩ ?_ hil (by dsimp only;omega)
    dsimp only
    rw [hq',List.map_append,List.map_append]
    exact sbl
   rw [evR16 ⟨h13,h14,h15⟩] at hq'
   repeat' first|refine Zz ?_|intro _
   refine al_append (fun v''=>?_)
   repeat' first|refine Zz ?_|intro _
   refine ae_round (i + 1,v',v'') ⟨rfl,rfl,rfl,rfl,trivial⟩ ?_ hil (by dsimp only;omega)
   dsimp only
   rw [hq',List.map_append,List.map_append]
   exact sbl
 ·have hi':i=l.length:=by omega
  subst hi'
  rw [List.take_length]
  repeat' first|refine Zz ?_|intro _
  refine reI ?_
  show Imp (.agg 3 [dSl (runL h t (d,[],[]) l).1,.sl 3 ((runL h t (d,[],[]) l).2.1.map repA) (some v7),.sl 15 ((runL h t (d,[],[]) l).2.2.map evA) (some v8)]) (.agg 3 [dSl (runL h t (d,[],[]) l).1,.sl 3 ((runL h t (d,[],[]) l).2.1.map repA) none,.sl 15 ((runL h t (d,[],[]) l).2.2.map evA) none])
  exact ImpR.imp⟩
instance fnR19Run19 {d:List Ent}{l:List Bs}{h t:Int}{xs ys:List AV}{id id2:Option Value}[hx:Ents xs d][hy:Strs ys l]:Ans Tryz.prog GL 12 [.sl 2 xs id2,.agg 3 [int h,int t,.sl 1 ys id]] (DOk d∧l.length≤1000000∧∀ s ∈ l,s.length≤1000000000∧(rtxE (xs0 s)=0→K19 (rtxV (xs0 s)).k))
   (.agg 3 [dSl (runR d ⟨h,t,l⟩).1,.sl 3 ((runR d ⟨h,t,l⟩).2.1.map repA) none,.sl 15 ((runR d ⟨h,t,l⟩).2.2.map evA) none]):=fnR19RunK (K:=K19) fnR18Do19
end Go.Proofs.YtmadjfemenlamaaGreatDoor

namespace Go.Proofs.YtmadjfemenlamaaGreatDoor
open Go Go.RowKit Tw Av
attribute [local irreducible] runR runL blB zb1 zb2 specK txB rtxE rtxV xs0 doR specB
set_option maxRecDepth 100000 in
set_option maxHeartbeats 8000000 in
instance fnBlockRuns {o:Bool}{l:List Spc}{hh tt:Int}{cc:Bs}{xs:List AV}{id:Option Value}[hx:Spcs xs l]:Ans Tryz.prog GL 3 [boo o,.sl 3 xs id,.agg 3 [int hh,int tt,str cc]] True (boo true):=⟨fun _=>by
 have h:=hx.out
 subst h
 have hm:(l.map spcA).length=l.length:=List.length_map _
 have hd:=start_ok o
 have hdl:=hd.l
 have hdi:=hd.id
 refine spec_enter Tryz.func3 rfl Tryz.ntmps3 rfl (fun _ hs=>?_)
 refine ac_bnd 1 (fun hb=>?_)
 have hb:=maxLen_le hb
 repeat' first|refine Zz ?_|intro _
 rename_i g5 g9
 have hH0:1≤1 + hh % 64∧1 + hh % 64≤64:=by omega
 have hT0:0≤tt % 64∧tt % 64≤63:=by omega
 generalize 1 + hh % 64=H at *
 generalize tt % 64=T at *
 refine ac_asV (g:=g9) (v':=.agg 3 [int H,int T,.sl 1 [] (some (.slice none 0 0))]) imp_bvar ?_
 refine ac_st (fun ok w h=>h.full 9 1 none 0) ?_
 refine ac_loop (α:=Nat × Value) (fun q=>[(1,.sl 3 (l.map spcA) id),(5,ptr g5),(6,.lit (.bool false)),(7,boo true),(8,.sl 2 ((startL o).map entA) none),(9,ptr g9),(10,int q.1)]) (fun q=>[.tail 9 1 q.2,.var g9 30 (.agg 3 [int H,int T,.sl 1 (((l.take q.1).map spcB).map str) (some q.2)]),.var g5 24 (.agg 3 [int hh,int tt,str cc])]) (fun q=>q.1≤l.length∧q.1≤12) (fun q=>12 - q.1) (0,.slice none 0 0) ⟨rfl,rfl,rfl,rfl,rfl,rfl,rfl,trivial⟩ ?_ ⟨Nat.zero_le _,Nat.zero_le _⟩ ?_
 focus
  exact sbl
 rintro⟨i,v⟩ ⟨g1,g2⟩
 dsimp only at g1 g2 ⊢
 have hml2:((l.take i).map spcB).length=i:=by
  rw [List.length_map,List.length_take]
  omega
 by_cases hc:i < l.length∧i < 12
 ·obtain⟨hc1,hc2⟩:=hc
  have hml3:(l.take i).length=i:=by rw [List.length_take];omega
  have hsu:(l.take (i + 1)).map spcB=(l.take i).map spcB++[spcB l[i]]:=by rw [List.take_succ_eq_append_getElem hc1,List.map_append];rfl
  repeat' first|refine Zz ?_|intro _
  apply obl_fresh [0];exact rfl;exact rfl;exact rfl;kernel_rfl;intro _ _
  refine al_append (fun v'=>?_)
  refine al_nil (ae_fresh [.tail 9 1 v'] [] rfl rfl (List.Perm.refl _) rfl ?_)
  repeat' first|refine Zz ?_|intro _
  refine ae_round (i + 1,v') ⟨rfl,rfl,rfl,rfl,rfl,rfl,rfl,trivial⟩ ?_ ⟨hc1,hc2⟩ (by dsimp only;omega)
  dsimp only
  rw [hsu,List.map_append]
  exact sbl
 ·have hk:=spcs_k (l:=l.take i)
  generalize (l.take i).map spcB=L at *
  have hmL:(L.map str).length=L.length:=List.length_map _
  have hp2:DOk (startL o)∧L.length≤1000000∧∀ s ∈ L,s.length≤1000000000∧(rtxE (xs0 s)=0→K19 (rtxV (xs0 s)).k):=⟨hd,by omega,hk⟩
  have hdR:DOk (runR (startL o) ⟨H,T,L⟩).1:=runR_dok hd
  have hlR:=hdR.l
  by_cases h1:i < l.length
  all_goals
   repeat' first|refine Zz ?_|intro _
   rw [hdi]
   repeat' first|refine Zz ?_|intro _
   refine reE ?_
   rw [← rootE_eq]
   exact congrArg boo (decide_eq_true rfl)⟩
end Go.Proofs.YtmadjfemenlamaaGreatDoor
