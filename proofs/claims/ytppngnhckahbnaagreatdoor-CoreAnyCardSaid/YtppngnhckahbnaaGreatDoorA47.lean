/- chapter 18, the document's way, in plain words: packets; a transaction -/
import Derived.Test.YtppngnhckahbnaaGreatDoorA45
namespace Go.Proofs.YtppngnhckahbnaaGreatDoor
open Go Go.RowKit Tw Av
abbrev qA (o:Out18):AV:=.agg 4 [dSl o.1,repA o.2]
def fQ (e:Int):Out18:=([],repE e)
def pQ (d:List Ent)(k v:Bs):Out18:=if (putR d k v).2=0 then ((putR d k v).1,rep0) else fQ (putR d k v).2
def finQ (d:List Ent)(q:Out18):Out18:=if q.2.e=0 then q else failR d q.2.e
theorem fin_f {d:List Ent}{e:Int}(h:e≠0):finQ d (fQ e)=failR d e:=by
 unfold finQ fQ repE
 rw [if_neg h]
theorem fin_p {d:List Ent}{k v:Bs}:finQ d (pQ d k v)=putsR d k v:=by
 unfold pQ putsR tellR
 split
 ·rfl
 ·rename_i h
  exact fin_f h
theorem fin_t {d:List Ent}{r:List Ent × Int}:finQ d (r.1,repE r.2)=tellR d r rep0:=by
 unfold finQ tellR repE
 dsimp only
 split
 ·rename_i h
  rw [h]
  rfl
 ·rfl
def coinQ (d:List Ent)(x:TxX):Out18:=if denB x.x.d=false∨plainB x.x.g=false∨(x.k=1∧0 < hopN x.x.d)∨(x.k=2∧plainB x.x.f=false) then fQ 1 else if x.k=1 then ((mintR d x.x.g x.x.d x.x.a).1,repE (mintR d x.x.g x.x.d x.x.a).2) else ((moveR d x.x.f x.x.g x.x.d x.x.a).1,repE (moveR d x.x.f x.x.g x.x.d x.x.a).2)
theorem fin_fund {d:List Ent}{x:TxX}(h:x.k=1):finQ d (coinQ d x)=fundR d x.x:=by
 unfold coinQ fundR
 by_cases h1:denB x.x.d=false∨0 < hopN x.x.d∨plainB x.x.g=false
 ·rw [if_pos h1,if_pos (by rcases h1 with h1|h1|h1;exact .inl h1;exact .inr (.inr (.inl ⟨h,h1⟩));exact .inr (.inl h1)),fin_f (by decide)]
 ·rw [if_neg h1,if_neg (fun e=>h1 (by rcases e with e|e|e|e;exact .inl e;exact .inr (.inr e);exact .inr (.inl e.2);exact absurd (h.symm.trans e.1) (by decide))),if_pos h,fin_t]
theorem fin_move {d:List Ent}{x:TxX}(h:x.k=2):finQ d (coinQ d x)=movR d x.x:=by
 have hn:¬ x.k=1:=by rw [h];decide
 unfold coinQ movR
 by_cases h1:denB x.x.d=false∨plainB x.x.f=false∨plainB x.x.g=false
 ·rw [if_pos h1,if_pos (by rcases h1 with h1|h1|h1;exact .inl h1;exact .inr (.inr (.inr ⟨h,h1⟩));exact .inr (.inl h1)),fin_f (by decide)]
 ·rw [if_neg h1,if_neg (fun e=>h1 (by rcases e with e|e|e|e;exact .inl e;exact .inr (.inr e);exact absurd e.1 hn;exact .inr (.inl e.2))),if_neg hn,fin_t]
def cliQ (d:List Ent)(x:TxX)(t:Int):Out18:=
 if x.k=4 then (if clB d x.i=false then fQ 12 else if updE (clR d x.i) x.h x.m t≠0 then fQ (updE (clR d x.i) x.h x.m t) else pQ d (kyO [67] x.i) (cliB (updC (clR d x.i) x.h x.m t)))
 else if partB x.i=false then fQ 1 else if clB d x.i=true then fQ 13 else if newE x.y x.e x.h≠0 then fQ (newE x.y x.e x.h) else pQ d (kyO [67] x.i) (cliB (newR x.y x.e x.h))
theorem fin_upd {d:List Ent}{x:TxX}{t:Int}(h:x.k=4):finQ d (cliQ d x t)=updR d x t:=by
 unfold cliQ updR
 rw [if_pos h]
 split
 ·exact fin_f (by decide)
 ·split
  ·rename_i h1
   exact fin_f h1
  ·exact fin_p
theorem fin_cre {d:List Ent}{x:TxX}{t:Int}(h:x.k=3):finQ d (cliQ d x t)=creR d x:=by
 unfold cliQ creR
 rw [if_neg (by rw [h];decide)]
 split
 ·exact fin_f (by decide)
 ·split
  ·exact fin_f (by decide)
  ·split
   ·rename_i h1
    exact fin_f h1
   ·exact fin_p
def begP (d:List Ent)(x:TxX)(i k:Bs)(try':Bool)(t:Int):Out18:=
 if try'=false then (if (initE x.o x.q).2≠0 then fQ (initE x.o x.q).2 else pQ d (kyO k x.i) (enxB (initE x.o x.q).1))
 else if prE d i x.t t (kyO k x.p) (enxB ⟨1,x.q,x.o,[]⟩) x.f≠0 then fQ (prE d i x.t t (kyO k x.p) (enxB ⟨1,x.q,x.o,[]⟩) x.f)
 else if (tryE x.o x.p ⟨1,x.q,x.o,[]⟩).2≠0 then fQ (tryE x.o x.p ⟨1,x.q,x.o,[]⟩).2
 else pQ d (kyO k x.i) (enxB (tryE x.o x.p ⟨1,x.q,x.o,[]⟩).1)
theorem fin_beg {d:List Ent}{x:TxX}{i k:Bs}{b:Bool}{t:Int}:finQ d (begP d x i k b t)=begR d x i k b t:=by
 unfold begP begR
 split
 ·split
  ·rename_i h1
   exact fin_f h1
  ·exact fin_p
 ·split
  ·rename_i h1
   exact fin_f h1
  ·split
   ·rename_i h1
    exact fin_f h1
   ·exact fin_p
def begK (d:List Ent)(x:TxX)(b:Bool)(t:Int):Out18:=if partB x.i=false then fQ 1 else if enB d [75] x.i=true then fQ 13 else if clB d x.o=false then fQ 12 else begP d x x.o [75] b t
def begH (d:List Ent)(x:TxX)(b:Bool)(t:Int):Out18:=if partB x.i=false then fQ 1 else if enB d [72] x.i=true then fQ 13 else if enB d [75] x.o=false then fQ 12 else if (enR d [75] x.o).s≠3 then fQ 13 else begP d x (enR d [75] x.o).o [72] b t
theorem fin_con {d:List Ent}{x:TxX}{t:Int}:finQ d (begK d x (decide (x.k=6)) t)=conR d x t:=by
 unfold begK conR
 split
 ·exact fin_f (by decide)
 ·split
  ·exact fin_f (by decide)
  ·split
   ·exact fin_f (by decide)
   ·exact fin_beg
theorem fin_opn {d:List Ent}{x:TxX}{t:Int}:finQ d (begH d x (decide (x.k=10)) t)=opnR d x t:=by
 unfold begH opnR
 split
 ·exact fin_f (by decide)
 ·split
  ·exact fin_f (by decide)
  ·split
   ·exact fin_f (by decide)
   ·split
    ·exact fin_f (by decide)
    ·exact fin_beg
def joiP (d:List Ent)(x:TxX)(i k pp:Bs)(th:EndX)(r:EndX × Int)(t:Int):Out18:=if prE d i x.t t (kyO k pp) (enxB th) x.f≠0 then fQ (prE d i x.t t (kyO k pp) (enxB th) x.f) else if r.2≠0 then fQ r.2 else pQ d (kyO k x.i) (enxB r.1)
theorem fin_joi {d:List Ent}{x:TxX}{i k pp:Bs}{th:EndX}{r:EndX × Int}{t:Int}:finQ d (joiP d x i k pp th r t)=joiQ d x i k pp th r t:=by
 unfold joiP joiQ
 split
 ·rename_i h1
  exact fin_f h1
 ·split
  ·rename_i h1
   exact fin_f h1
  ·exact fin_p
def joiO (d:List Ent)(x:TxX)(own:EndX)(i k:Bs)(ack:Bool)(t:Int):Out18:=if ack=true then joiP d x i k x.p ⟨2,own.q,own.o,x.i⟩ (ackE own x.i x.p ⟨2,own.q,own.o,x.i⟩) t else joiP d x i k own.p ⟨3,own.q,own.o,x.i⟩ (cnfE own x.i ⟨3,own.q,own.o,x.i⟩) t
theorem fin_joo {d:List Ent}{x:TxX}{own:EndX}{i k:Bs}{b:Bool}{t:Int}:finQ d (joiO d x own i k b t)=joiR d x own i k b t:=by
 cases b
 ·rw [joi_f]
  exact fin_joi
 ·rw [joi_t]
  exact fin_joi
def opnK (d:List Ent)(x:TxX)(b:Bool)(t:Int):Out18:=if enB d [75] x.i=false then fQ 12 else joiO d x (enR d [75] x.i) (enR d [75] x.i).o [75] b t
def opnH (d:List Ent)(x:TxX)(b:Bool)(t:Int):Out18:=if enB d [72] x.i=false then fQ 12 else if enB d [75] (enR d [72] x.i).o=false then fQ 12 else joiO d x (enR d [72] x.i) (enR d [75] (enR d [72] x.i).o).o [72] b t
theorem fin_cod {d:List Ent}{x:TxX}{t:Int}:finQ d (opnK d x (decide (x.k=7)) t)=codR d x t:=by
 unfold opnK codR
 split
 ·exact fin_f (by decide)
 ·exact fin_joo
theorem fin_opd {d:List Ent}{x:TxX}{t:Int}:finQ d (opnH d x (decide (x.k=11)) t)=opdR d x t:=by
 unfold opnH opdR
 cases h1:enB d [72] x.i
 ·rw [if_pos rfl,if_pos (.inl rfl)]
  exact fin_f (by decide)
 ·rw [if_neg (show ¬ true=false by decide)]
  cases h2:enB d [75] (enR d [72] x.i).o
  ·rw [if_pos rfl,if_pos (.inr rfl)]
   exact fin_f (by decide)
  ·rw [if_neg (show ¬ true=false by decide),if_neg (by simp)]
   exact fin_joo
end Go.Proofs.YtppngnhckahbnaaGreatDoor

namespace Go.Proofs.YtppngnhckahbnaaGreatDoor
open Go Go.RowKit Tw Av
attribute [local irreducible] clB enB
theorem imp_f {e:Int}:Imp (outOf [.agg 4 [.lit (.slice none 0 0),.agg 3 [int e,.lit (.int .i64 0),str []]]]) (qA (fQ e)):=(inferInstance:ImpR (.agg 4 [.lit (.slice none 0 0),.agg 3 [int e,.lit (.int .i64 0),str []]]) (.agg 4 [.sl 2 [] none,.agg 3 [int e,int 0,str []]])).imp
instance fnR18Fails {e:Int}:Ans Tryz.prog GL 155 [int e] True (qA (fQ e)):=⟨fun _=>by
 refine spec_enter Tryz.func155 rfl Tryz.ntmps155 rfl (fun _ hs=>?_)
 repeat' first|refine Zz ?_|intro _
 refine reI ?_
 exact imp_f⟩
instance fnR18Puts {d:List Ent}{k v:Bs}{xs:List AV}{id:Option Value}[hx:Ents xs d]:Ans Tryz.prog GL 245 [.sl 2 xs id,str k,str v] (DOk d) (qA (pQ d k v)):=⟨fun hd=>by
 refine spec_enter Tryz.func245 rfl Tryz.ntmps245 rfl (fun _ hs=>?_)
 repeat' first|refine Zz ?_|intro _
 unfold pQ
 by_cases h:(putR d k v).2=0
 ·rw [if_pos h,decide_eq_false (not_not_intro h)]
  repeat' first|refine Zz ?_|intro _
  refine reE ?_
  rfl
 ·rw [if_neg h,decide_eq_true h]
  repeat' first|refine Zz ?_|intro _
  refine reE ?_
  rfl⟩
set_option maxHeartbeats 2000000 in
instance fnR18Coins {d:List Ent}{x:TxX}{xs:List AV}{id:Option Value}[hx:Ents xs d]:Ans Tryz.prog GL 148 [.sl 2 xs id,txA x] (DOk d∧TxB x) (qA (coinQ d x)):=⟨fun hp=>by
 obtain⟨hd,hb⟩:=hp
 have b1:=hb.d
 have b2:=hb.f
 have b3:=hb.g
 refine spec_enter Tryz.func148 rfl Tryz.ntmps148 rfl (fun _ hs=>?_)
 repeat' first|refine Zz ?_|intro _
 unfold coinQ
 cases h1:denB x.x.d
 ·rw [if_pos (.inl rfl)]
  repeat' first|refine Zz ?_|intro _
  refine reE ?_
  rfl
 cases h2:plainB x.x.g
 ·rw [if_pos (.inr (.inl rfl))]
  repeat' first|refine Zz ?_|intro _
  refine reE ?_
  rfl
 repeat' first|refine Zz ?_|intro _
 by_cases h3:x.k=1
 ·have h3':¬ x.k=2:=by omega
  rw [if_pos h3,decide_eq_true h3]
  repeat' first|refine Zz ?_|intro _
  by_cases h4:0 < hopN x.x.d
  ·rw [if_pos (.inr (.inr (.inl ⟨h3,h4⟩))),decide_eq_true (show (0:Int) < ((hopN x.x.d:Nat):Int) by omega)]
   repeat' first|refine Zz ?_|intro _
   refine reE ?_
   rfl
  ·rw [if_neg (show ¬ (true=false∨true=false∨(x.k=1∧0 < hopN x.x.d)∨(x.k=2∧plainB x.x.f=false)) by simp [h4,h3']),decide_eq_false (show ¬ (0:Int) < ((hopN x.x.d:Nat):Int) by omega)]
   repeat' first|refine Zz ?_|intro _
   rw [decide_eq_false h3']
   repeat' first|refine Zz ?_|intro _
   refine reE ?_
   rfl
 ·rw [if_neg h3,decide_eq_false h3]
  repeat' first|refine Zz ?_|intro _
  by_cases h5:x.k=2
  ·rw [decide_eq_true h5]
   repeat' first|refine Zz ?_|intro _
   cases h6:plainB x.x.f
   ·rw [if_pos (.inr (.inr (.inr ⟨h5,rfl⟩)))]
    repeat' first|refine Zz ?_|intro _
    refine reE ?_
    rfl
   ·rw [if_neg (show ¬ (true=false∨true=false∨(x.k=1∧0 < hopN x.x.d)∨(x.k=2∧true=false)) by simp [h3])]
    repeat' first|refine Zz ?_|intro _
    refine reE ?_
    rfl
  ·rw [if_neg (show ¬ (true=false∨true=false∨(x.k=1∧0 < hopN x.x.d)∨(x.k=2∧plainB x.x.f=false)) by simp [h3,h5]),decide_eq_false h5]
   repeat' first|refine Zz ?_|intro _
   refine reE ?_
   rfl⟩
set_option maxHeartbeats 2000000 in
instance fnR18Clients {d:List Ent}{t:Int}{x:TxX}{xs:List AV}{id:Option Value}[hx:Ents xs d]:Ans Tryz.prog GL 149 [.sl 2 xs id,txA x,int t] (DOk d∧TxB x) (qA (cliQ d x t)):=⟨fun hp=>by
 obtain⟨hd,hb⟩:=hp
 have b1:=hb.i
 have b2:=hb.hh
 have b3:=hb.ht
 have hF:=clF d x.i
 have q1:CliOk (clR d x.i)∧(Rise (clR d x.i).l∧(clR d x.i).l.length≤32)∧x.h.h≤9223372036854775807∧x.h.t≤9223372036854775807:=⟨hF.ok,⟨hF.r,hF.n⟩,b2,b3⟩
 have hw:CliW (newR x.y x.e x.h):=by
  unfold newR
  split
  ·rename_i h
   exact (may_f h).w
  ·exact zero_f.w
 have hw2:CliW (updC (clR d x.i) x.h x.m t):=updC_w hF b2 b3
 refine spec_enter Tryz.func149 rfl Tryz.ntmps149 rfl (fun _ hs=>?_)
 repeat' first|refine Zz ?_|intro _
 unfold cliQ
 by_cases h1:x.k=4
 ·rw [if_pos h1,decide_eq_true h1]
  repeat' first|refine Zz ?_|intro _
  cases h2:clB d x.i
  ·rw [if_pos rfl]
   repeat' first|refine Zz ?_|intro _
   refine reE ?_
   rfl
  rw [if_neg (show ¬ true=false by decide)]
  repeat' first|refine Zz ?_|intro _
  by_cases h3:updE (clR d x.i) x.h x.m t=0
  rotate_left
  ·rw [if_pos h3,decide_eq_true h3]
   repeat' first|refine Zz ?_|intro _
   refine reE ?_
   rfl
  rw [if_neg (not_not_intro h3),decide_eq_false (not_not_intro h3)]
  repeat' first|refine Zz ?_|intro _
  refine reE ?_
  rfl
 rw [if_neg h1,decide_eq_false h1]
 repeat' first|refine Zz ?_|intro _
 cases h2:partB x.i
 ·rw [if_pos rfl]
  repeat' first|refine Zz ?_|intro _
  refine reE ?_
  rfl
 rw [if_neg (show ¬ true=false by decide)]
 repeat' first|refine Zz ?_|intro _
 cases h3:clB d x.i
 rotate_left
 ·rw [if_pos rfl]
  repeat' first|refine Zz ?_|intro _
  refine reE ?_
  rfl
 rw [if_neg (show ¬ false=true by decide)]
 repeat' first|refine Zz ?_|intro _
 by_cases h4:newE x.y x.e x.h=0
 rotate_left
 ·rw [if_pos h4,decide_eq_true h4]
  repeat' first|refine Zz ?_|intro _
  refine reE ?_
  rfl
 rw [if_neg (not_not_intro h4),decide_eq_false (not_not_intro h4)]
 repeat' first|refine Zz ?_|intro _
 refine reE ?_
 rfl⟩
end Go.Proofs.YtppngnhckahbnaaGreatDoor

namespace Go.Proofs.YtppngnhckahbnaaGreatDoor
open Go Go.RowKit Tw Av
attribute [local irreducible] clB enB
theorem part_len {s:Bs}(h:partB s=true):s.length≤32:=by
 unfold partB at h
 rw [Bool.and_eq_true,decide_eq_true_iff] at h
 exact h.2.2
theorem red_len (s:Bs):(redV s).o.length≤32∧(redV s).q.length≤32∧(redV s).p.length≤32∧(redV s).s≤4:=by
 unfold redV
 split
 ·rename_i h
  unfold reOk at h
  rw [Bool.and_eq_true] at h
  have h:=h.2
  unfold chkE at h
  simp only [Bool.and_eq_true,decide_eq_true_eq] at h
  obtain⟨h1,h2,h3,h4⟩:=h
  refine⟨part_len h2,part_len h3,?_,h1.2⟩
  split at h4
  ·rw [of_decide_eq_true h4]
   simp
  ·exact part_len h4
 ·decide
theorem en_len (d:List Ent)(k i:Bs):(enR d k i).o.length≤32∧(enR d k i).q.length≤32∧(enR d k i).p.length≤32∧(enR d k i).s≤4:=red_len _
instance fnR18UnderK {d:List Ent}{o:Bs}{xs:List AV}{id:Option Value}[Ents xs d]:Ans Tryz.prog GL 248 [.sl 2 xs id,str [75],str o] (DOk d) (.tup [str o,boo true]):=⟨fun hd=>by
 refine spec_enter Tryz.func248 rfl Tryz.ntmps248 rfl (fun _ hs=>?_)
 repeat' first|refine Zz ?_|intro _
 refine reE ?_
 rfl⟩
instance fnR18UnderH {d:List Ent}{o:Bs}{xs:List AV}{id:Option Value}[hx:Ents xs d]:Ans Tryz.prog GL 248 [.sl 2 xs id,str [72],str o] (DOk d) (.tup [str (enR d [75] o).o,boo (enB d [75] o)]):=⟨fun hd=>by
 refine spec_enter Tryz.func248 rfl Tryz.ntmps248 rfl (fun _ hs=>?_)
 repeat' first|refine Zz ?_|intro _
 refine reE ?_
 rfl⟩
set_option maxHeartbeats 4000000 in
instance fnR18BeginsK {d:List Ent}{t:Int}{x:TxX}{b:Bool}{xs:List AV}{id:Option Value}[hx:Ents xs d]:Ans Tryz.prog GL 150 [.sl 2 xs id,txA x,str [75],boo b,int t] (DOk d∧TxB x) (qA (begK d x b t)):=⟨fun hp=>by
 obtain⟨hd,hb⟩:=hp
 have b1:=hb.i
 have b2:=hb.o
 have b3:=hb.p
 have b4:=hb.q
 have e1:=initE_s (o:=x.o) (q:=x.q)
 have e2:=tryE_s (o:=x.o) (p:=x.p) (t:=⟨1,x.q,x.o,[]⟩)
 have q1:DOk d∧x.f.m≤9223372036854775807:=⟨hd,hb.fm⟩
 refine spec_enter Tryz.func150 rfl Tryz.ntmps150 rfl (fun _ hs=>?_)
 repeat' first|refine Zz ?_|intro _
 unfold begK begP
 cases h1:partB x.i
 ·rw [if_pos rfl]
  repeat' first|refine Zz ?_|intro _
  refine reE ?_
  rfl
 rw [if_neg (show ¬ true=false by decide)]
 repeat' first|refine Zz ?_|intro _
 cases h2:enB d [75] x.i
 rotate_left
 ·rw [if_pos rfl]
  repeat' first|refine Zz ?_|intro _
  refine reE ?_
  rfl
 rw [if_neg (show ¬ false=true by decide)]
 repeat' first|refine Zz ?_|intro _
 cases h3:clB d x.o
 ·rw [if_pos rfl]
  repeat' first|refine Zz ?_|intro _
  refine reE ?_
  rfl
 rw [if_neg (show ¬ true=false by decide)]
 repeat' first|refine Zz ?_|intro _
 cases b
 ·rw [if_pos rfl]
  repeat' first|refine Zz ?_|intro _
  by_cases h6:(initE x.o x.q).2=0
  rotate_left
  ·rw [if_pos h6,decide_eq_true h6]
   repeat' first|refine Zz ?_|intro _
   refine reE ?_
   rfl
  rw [if_neg (not_not_intro h6),decide_eq_false (not_not_intro h6)]
  repeat' first|refine Zz ?_|intro _
  refine reE ?_
  rfl
 rw [if_neg (show ¬ true=false by decide)]
 repeat' first|refine Zz ?_|intro _
 by_cases h7:prE d x.o x.t t (kyO [75] x.p) (enxB ⟨1,x.q,x.o,[]⟩) x.f=0
 rotate_left
 ·rw [if_pos h7,decide_eq_true h7]
  repeat' first|refine Zz ?_|intro _
  refine reE ?_
  rfl
 rw [if_neg (not_not_intro h7),decide_eq_false (not_not_intro h7)]
 repeat' first|refine Zz ?_|intro _
 by_cases h8:(tryE x.o x.p ⟨1,x.q,x.o,[]⟩).2=0
 rotate_left
 ·rw [if_pos h8,decide_eq_true h8]
  repeat' first|refine Zz ?_|intro _
  refine reE ?_
  rfl
 rw [if_neg (not_not_intro h8),decide_eq_false (not_not_intro h8)]
 repeat' first|refine Zz ?_|intro _
 refine reE ?_
 rfl⟩
set_option maxHeartbeats 4000000 in
instance fnR18BeginsH {d:List Ent}{t:Int}{x:TxX}{b:Bool}{xs:List AV}{id:Option Value}[hx:Ents xs d]:Ans Tryz.prog GL 150 [.sl 2 xs id,txA x,str [72],boo b,int t] (DOk d∧TxB x) (qA (begH d x b t)):=⟨fun hp=>by
 obtain⟨hd,hb⟩:=hp
 have b1:=hb.i
 have b2:=hb.o
 have b3:=hb.p
 have b4:=hb.q
 have e1:=initE_s (o:=x.o) (q:=x.q)
 have e2:=tryE_s (o:=x.o) (p:=x.p) (t:=⟨1,x.q,x.o,[]⟩)
 have q1:DOk d∧x.f.m≤9223372036854775807:=⟨hd,hb.fm⟩
 refine spec_enter Tryz.func150 rfl Tryz.ntmps150 rfl (fun _ hs=>?_)
 repeat' first|refine Zz ?_|intro _
 unfold begH begP
 cases h1:partB x.i
 ·rw [if_pos rfl]
  repeat' first|refine Zz ?_|intro _
  refine reE ?_
  rfl
 rw [if_neg (show ¬ true=false by decide)]
 repeat' first|refine Zz ?_|intro _
 cases h2:enB d [72] x.i
 rotate_left
 ·rw [if_pos rfl]
  repeat' first|refine Zz ?_|intro _
  refine reE ?_
  rfl
 rw [if_neg (show ¬ false=true by decide)]
 repeat' first|refine Zz ?_|intro _
 cases h3:enB d [75] x.o
 ·rw [if_pos rfl]
  repeat' first|refine Zz ?_|intro _
  refine reE ?_
  rfl
 rw [if_neg (show ¬ true=false by decide)]
 repeat' first|refine Zz ?_|intro _
 by_cases h4:(enR d [75] x.o).s=3
 rotate_left
 ·rw [if_pos h4,decide_eq_true h4]
  repeat' first|refine Zz ?_|intro _
  refine reE ?_
  rfl
 rw [if_neg (not_not_intro h4),decide_eq_false (not_not_intro h4)]
 repeat' first|refine Zz ?_|intro _
 cases b
 ·rw [if_pos rfl]
  repeat' first|refine Zz ?_|intro _
  by_cases h6:(initE x.o x.q).2=0
  rotate_left
  ·rw [if_pos h6,decide_eq_true h6]
   repeat' first|refine Zz ?_|intro _
   refine reE ?_
   rfl
  rw [if_neg (not_not_intro h6),decide_eq_false (not_not_intro h6)]
  repeat' first|refine Zz ?_|intro _
  refine reE ?_
  rfl
 rw [if_neg (show ¬ true=false by decide)]
 repeat' first|refine Zz ?_|intro _
 by_cases h7:prE d (enR d [75] x.o).o x.t t (kyO [72] x.p) (enxB ⟨1,x.q,x.o,[]⟩) x.f=0
 rotate_left
 ·rw [if_pos h7,decide_eq_true h7]
  repeat' first|refine Zz ?_|intro _
  refine reE ?_
  rfl
 rw [if_neg (not_not_intro h7),decide_eq_false (not_not_intro h7)]
 repeat' first|refine Zz ?_|intro _
 by_cases h8:(tryE x.o x.p ⟨1,x.q,x.o,[]⟩).2=0
 rotate_left
 ·rw [if_pos h8,decide_eq_true h8]
  repeat' first|refine Zz ?_|intro _
  refine reE ?_
  rfl
 rw [if_neg (not_not_intro h8),decide_eq_false (not_not_intro h8)]
 repeat' first|refine Zz ?_|intro _
 refine reE ?_
 rfl⟩
set_option maxHeartbeats 4000000 in
instance fnR18OpensK {d:List Ent}{t:Int}{x:TxX}{b:Bool}{xs:List AV}{id:Option Value}[hx:Ents xs d]:Ans Tryz.prog GL 151 [.sl 2 xs id,txA x,str [75],boo b,int t] (DOk d∧TxB x) (qA (opnK d x b t)):=⟨fun hp=>by
 obtain⟨hd,hb⟩:=hp
 have b1:=hb.i
 have b3:=hb.p
 have q1:DOk d∧x.f.m≤9223372036854775807:=⟨hd,hb.fm⟩
 obtain⟨l1,l2,l3,l4⟩:=en_len d [75] x.i
 refine spec_enter Tryz.func151 rfl Tryz.ntmps151 rfl (fun _ hs=>?_)
 repeat' first|refine Zz ?_|intro _
 unfold opnK
 cases h1:enB d [75] x.i
 ·rw [if_pos rfl]
  repeat' first|refine Zz ?_|intro _
  refine reE ?_
  rfl
 rw [if_neg (show ¬ true=false by decide)]
 repeat' first|refine Zz ?_|intro _
 unfold joiO
 generalize hE:enR d [75] x.i=E at *
 obtain⟨es,eo,eq,ep⟩:=E
 dsimp only at l1 l2 l3 l4
 have e1:=ackE_s (x:=⟨es,eo,eq,ep⟩) (i:=x.i) (p:=x.p) (t:=⟨2,eq,eo,x.i⟩)
 have e2:(cnfE ⟨es,eo,eq,ep⟩ x.i ⟨3,eq,eo,x.i⟩).1.s≤9223372036854775807:=openE_s
 cases b
 ·rw [if_neg (show ¬ false=true by decide)]
  unfold joiP
  repeat' first|refine Zz ?_|intro _
  by_cases h7:prE d eo x.t t (kyO [75] ep) (enxB ⟨3,eq,eo,x.i⟩) x.f=0
  rotate_left
  ·rw [if_pos h7,decide_eq_true h7]
   repeat' first|refine Zz ?_|intro _
   refine reE ?_
   rfl
  rw [if_neg (not_not_intro h7),decide_eq_false (not_not_intro h7)]
  repeat' first|refine Zz ?_|intro _
  by_cases h8:(cnfE ⟨es,eo,eq,ep⟩ x.i ⟨3,eq,eo,x.i⟩).2=0
  rotate_left
  ·rw [if_pos h8,decide_eq_true h8]
   repeat' first|refine Zz ?_|intro _
   refine reE ?_
   rfl
  rw [if_neg (not_not_intro h8),decide_eq_false (not_not_intro h8)]
  repeat' first|refine Zz ?_|intro _
  refine reE ?_
  rfl
 ·rw [if_pos rfl]
  unfold joiP
  repeat' first|refine Zz ?_|intro _
  by_cases h7:prE d eo x.t t (kyO [75] x.p) (enxB ⟨2,eq,eo,x.i⟩) x.f=0
  rotate_left
  ·rw [if_pos h7,decide_eq_true h7]
   repeat' first|refine Zz ?_|intro _
   refine reE ?_
   rfl
  rw [if_neg (not_not_intro h7),decide_eq_false (not_not_intro h7)]
  repeat' first|refine Zz ?_|intro _
  by_cases h8:(ackE ⟨es,eo,eq,ep⟩ x.i x.p ⟨2,eq,eo,x.i⟩).2=0
  rotate_left
  ·rw [if_pos h8,decide_eq_true h8]
   repeat' first|refine Zz ?_|intro _
   refine reE ?_
   rfl
  rw [if_neg (not_not_intro h8),decide_eq_false (not_not_intro h8)]
  repeat' first|refine Zz ?_|intro _
  refine reE ?_
  rfl⟩
set_option maxHeartbeats 4000000 in
instance fnR18OpensH {d:List Ent}{t:Int}{x:TxX}{b:Bool}{xs:List AV}{id:Option Value}[hx:Ents xs d]:Ans Tryz.prog GL 151 [.sl 2 xs id,txA x,str [72],boo b,int t] (DOk d∧TxB x) (qA (opnH d x b t)):=⟨fun hp=>by
 obtain⟨hd,hb⟩:=hp
 have b1:=hb.i
 have b3:=hb.p
 have q1:DOk d∧x.f.m≤9223372036854775807:=⟨hd,hb.fm⟩
 obtain⟨l1,l2,l3,l4⟩:=en_len d [72] x.i
 refine spec_enter Tryz.func151 rfl Tryz.ntmps151 rfl (fun _ hs=>?_)
 repeat' first|refine Zz ?_|intro _
 unfold opnH
 cases h1:enB d [72] x.i
 ·rw [if_pos rfl]
  repeat' first|refine Zz ?_|intro _
  refine reE ?_
  rfl
 rw [if_neg (show ¬ true=false by decide)]
 repeat' first|refine Zz ?_|intro _
 cases h3:enB d [75] (enR d [72] x.i).o
 ·rw [if_pos rfl]
  repeat' first|refine Zz ?_|intro _
  refine reE ?_
  rfl
 rw [if_neg (show ¬ true=false by decide)]
 repeat' first|refine Zz ?_|intro _
 unfold joiO
 generalize hE:enR d [72] x.i=E at *
 obtain⟨es,eo,eq,ep⟩:=E
 dsimp only at l1 l2 l3 l4
 have e1:=ackE_s (x:=⟨es,eo,eq,ep⟩) (i:=x.i) (p:=x.p) (t:=⟨2,eq,eo,x.i⟩)
 have e2:(cnfE ⟨es,eo,eq,ep⟩ x.i ⟨3,eq,eo,x.i⟩).1.s≤9223372036854775807:=openE_s
 cases b
 ·rw [if_neg (show ¬ false=true by decide)]
  unfold joiP
  repeat' first|refine Zz ?_|intro _
  by_cases h7:prE d (enR d [75] eo).o x.t t (kyO [72] ep) (enxB ⟨3,eq,eo,x.i⟩) x.f=0
  rotate_left
  ·rw [if_pos h7,decide_eq_true h7]
   repeat' first|refine Zz ?_|intro _
   refine reE ?_
   rfl
  rw [if_neg (not_not_intro h7),decide_eq_false (not_not_intro h7)]
  repeat' first|refine Zz ?_|intro _
  by_cases h8:(cnfE ⟨es,eo,eq,ep⟩ x.i ⟨3,eq,eo,x.i⟩).2=0
  rotate_left
  ·rw [if_pos h8,decide_eq_true h8]
   repeat' first|refine Zz ?_|intro _
   refine reE ?_
   rfl
  rw [if_neg (not_not_intro h8),decide_eq_false (not_not_intro h8)]
  repeat' first|refine Zz ?_|intro _
  refine reE ?_
  rfl
 ·rw [if_pos rfl]
  unfold joiP
  repeat' first|refine Zz ?_|intro _
  by_cases h7:prE d (enR d [75] eo).o x.t t (kyO [72] x.p) (enxB ⟨2,eq,eo,x.i⟩) x.f=0
  rotate_left
  ·rw [if_pos h7,decide_eq_true h7]
   repeat' first|refine Zz ?_|intro _
   refine reE ?_
   rfl
  rw [if_neg (not_not_intro h7),decide_eq_false (not_not_intro h7)]
  repeat' first|refine Zz ?_|intro _
  by_cases h8:(ackE ⟨es,eo,eq,ep⟩ x.i x.p ⟨2,eq,eo,x.i⟩).2=0
  rotate_left
  ·rw [if_pos h8,decide_eq_true h8]
   repeat' first|refine Zz ?_|intro _
   refine reE ?_
   rfl
  rw [if_neg (not_not_intro h8),decide_eq_false (not_not_intro h8)]
  repeat' first|refine Zz ?_|intro _
  refine reE ?_
  rfl⟩
end Go.Proofs.YtppngnhckahbnaaGreatDoor

namespace Go.Proofs.YtppngnhckahbnaaGreatDoor
open Go Go.RowKit Tw Av
def sndS (d:List Ent)(x:Pkt):Out18:=pQ (sendR d (goes d x)).1 (kyW [80] x.s (goes d x).q) (comP (goes d x))
def sndT (d:List Ent)(x:Pkt):Out18:=pQ (sndS d x).1 (kyO [78] x.s) (tlvI 110 ((goes d x).q + 1))
def sndQ (d:List Ent)(x:Pkt):Out18:=
 if enB d [72] x.s=false then fQ 12 else if (enR d [72] x.s).s≠3 then fQ 13 else if chkP (goes d x)=false then fQ 1
 else if chaK d x.s=false∨clB d (chaN d x.s)=false then fQ 12
 else if lateP (goes d x) (latC (clR d (chaN d x.s)).l).h (latC (clR d (chaN d x.s)).l).t=true then fQ 21
 else if (sendR d (goes d x)).2≠0 then fQ (sendR d (goes d x)).2
 else if (sndS d x).2.e≠0 then sndS d x else if (sndT d x).2.e≠0 then sndT d x else ((sndT d x).1,⟨(sndT d x).2.e,(goes d x).q,(sndT d x).2.a⟩)
theorem pQ_yes {d:List Ent}{k v:Bs}(h:(putR d k v).2=0):pQ d k v=((putR d k v).1,rep0):=by
 unfold pQ
 rw [if_pos h]
theorem pQ_no {d:List Ent}{k v:Bs}(h:(putR d k v).2≠0):pQ d k v=fQ (putR d k v).2:=by
 unfold pQ
 rw [if_neg h]
theorem fin_id {d:List Ent}{q:Out18}(h:q.2.e=0):finQ d q=q:=by
 unfold finQ
 rw [if_pos h]
theorem cha_no {d:List Ent}{i:Bs}{A:EndX→Bool}(h:enB d [72] i=false):chaE d i A=12:=by
 unfold chaE
 rw [if_pos h]
theorem cha_st {d:List Ent}{i:Bs}{A:EndX→Bool}(h:enB d [72] i=true)(h2:(enR d [72] i).s≠3∨A (enR d [72] i)=false):chaE d i A=13:=by
 unfold chaE
 rw [if_neg (by rw [h];decide),if_pos h2]
theorem cha_ok {d:List Ent}{i:Bs}{A:EndX→Bool}(h:enB d [72] i=true)(h2:¬ ((enR d [72] i).s≠3∨A (enR d [72] i)=false)):chaE d i A=0:=by
 unfold chaE
 rw [if_neg (by rw [h];decide),if_neg h2]
theorem fin_snd {d:List Ent}{x:Pkt}:finQ d (sndQ d x)=sndR d x:=by
 unfold sndQ sndR
 cases h1:enB d [72] x.s
 ·rw [if_pos rfl,cha_no h1,if_pos (show (12:Int)≠0 by decide)]
  exact fin_f (by decide)
 rw [if_neg (show ¬ true=false by decide)]
 by_cases h2:(enR d [72] x.s).s=3
 rotate_left
 ·rw [if_pos h2,cha_st h1 (.inl h2),if_pos (show (13:Int)≠0 by decide)]
  exact fin_f (by decide)
 rw [if_neg (not_not_intro h2),cha_ok h1 (show ¬ ((enR d [72] x.s).s≠3∨true=false) by simp [h2])]
 rw [if_neg (show ¬ (0:Int)≠0 by decide)]
 split
 ·exact fin_f (by decide)
 split
 ·exact fin_f (by decide)
 split
 ·exact fin_f (by decide)
 unfold thenR
 dsimp only
 by_cases h3:(sendR d (goes d x)).2=0
 rotate_left
 ·rw [if_pos h3,if_neg h3,fin_f h3]
  unfold tellR
  rw [if_neg h3]
 rw [if_neg (not_not_intro h3),if_pos h3]
 unfold sndT
 by_cases h4:(putR (sendR d (goes d x)).1 (kyW [80] x.s (goes d x).q) (comP (goes d x))).2=0
 rotate_left
 ·have e:sndS d x=fQ _:=pQ_no h4
  rw [e,if_pos (show (fQ _).2.e≠0 from h4),if_neg h4,fin_f h4]
  unfold tellR
  rw [if_neg h4]
 have e:sndS d x=_:=pQ_yes h4
 rw [e,if_neg (show ¬ rep0.e≠0 from fun h=>h rfl),if_pos h4]
 dsimp only
 by_cases h5:(putR (putR (sendR d (goes d x)).1 (kyW [80] x.s (goes d x).q) (comP (goes d x))).1 (kyO [78] x.s) (tlvI 110 ((goes d x).q + 1))).2=0
 rotate_left
 ·rw [pQ_no h5,if_pos (show (fQ _).2.e≠0 from h5),fin_f h5]
  unfold tellR
  rw [if_neg h5]
 rw [pQ_yes h5,if_neg (show ¬ rep0.e≠0 from fun h=>h rfl),fin_id rfl]
 unfold tellR
 rw [if_pos h5]
 rfl
def rcvP (d:List Ent)(x:TxX):Out18:=pQ (if (recvR d x.x).2=0 then (recvR d x.x).1 else d) (kyW [71] x.x.k x.x.q) (rcpB (ackR d x.x))
def rcvQ (d:List Ent)(x:TxX)(h t:Int):Out18:=
 if chkP x.x=false then fQ 1 else if enB d [72] x.x.k=false then fQ 12 else if (enR d [72] x.x.k).s≠3∨(enR d [72] x.x.k).p≠x.x.s then fQ 13
 else if lateP x.x h t=true then fQ 21 else if (gO d (kyW [71] x.x.k x.x.q)).isSome=true then fQ 20 else if chaK d x.x.k=false then fQ 12
 else if prE d (chaN d x.x.k) x.t t (kyW [80] x.x.s x.x.q) (comP x.x) x.f≠0 then fQ (prE d (chaN d x.x.k) x.t t (kyW [80] x.x.s x.x.q) (comP x.x) x.f)
 else ((rcvP d x).1,⟨(rcvP d x).2.e,(rcvP d x).2.q,ackR d x.x⟩)
theorem fin_rcv {d:List Ent}{x:TxX}{h t:Int}:finQ d (rcvQ d x h t)=rcvR d x h t:=by
 unfold rcvQ rcvR
 split
 ·exact fin_f (by decide)
 cases h1:enB d [72] x.x.k
 ·rw [if_pos rfl,cha_no h1,if_pos (show (12:Int)≠0 by decide)]
  exact fin_f (by decide)
 rw [if_neg (show ¬ true=false by decide)]
 by_cases h2:(enR d [72] x.x.k).s≠3∨(enR d [72] x.x.k).p≠x.x.s
 ·rw [if_pos h2,cha_st h1 (by rcases h2 with h2|h2;exact .inl h2;exact .inr (decide_eq_false h2)),if_pos (show (13:Int)≠0 by decide)]
  exact fin_f (by decide)
 rw [if_neg h2,cha_ok h1 (show ¬ ((enR d [72] x.x.k).s≠3∨decide ((enR d [72] x.x.k).p=x.x.s)=false) from fun e=>h2 (by rcases e with e|e;exact .inl e;exact .inr (of_decide_eq_false e)))]
 rw [if_neg (show ¬ (0:Int)≠0 by decide)]
 split
 ·exact fin_f (by decide)
 split
 ·exact fin_f (by decide)
 split
 ·exact fin_f (by decide)
 split
 ·rename_i h3
  exact fin_f h3
 unfold rcvP
 by_cases h5:(putR (if (recvR d x.x).2=0 then (recvR d x.x).1 else d) (kyW [71] x.x.k x.x.q) (rcpB (ackR d x.x))).2=0
 ·rw [pQ_yes h5,fin_id rfl]
  unfold tellR
  rw [if_pos h5]
  rfl
 ·rw [pQ_no h5]
  unfold tellR finQ
  rw [if_neg h5,if_neg (show ¬ (fQ _).2.e=0 from h5)]
  rfl
def endP (d:List Ent)(x:Pkt)(b:Bool)(e:Int):Out18:=
 if enB d [72] x.s=false then fQ 12 else if (enR d [72] x.s).s≠3∨(enR d [72] x.s).p≠x.k then fQ 13
 else if gO d (kyW [80] x.s x.q)≠some (comP x) then fQ 12 else if chaK d x.s=false then fQ 12
 else if e≠0 then fQ e else if b=true∧(backR d x).2≠0 then fQ (backR d x).2
 else (drpL (if b=true then (backR d x).1 else d) (kyW [80] x.s x.q),rep0)
theorem fin_end {d:List Ent}{x:Pkt}{b:Bool}{e:Int}:finQ d (endP d x b e)=endR d x b e:=by
 unfold endP endR
 cases h1:enB d [72] x.s
 ·rw [if_pos rfl,cha_no h1,if_pos (show (12:Int)≠0 by decide)]
  exact fin_f (by decide)
 rw [if_neg (show ¬ true=false by decide)]
 by_cases h2:(enR d [72] x.s).s≠3∨(enR d [72] x.s).p≠x.k
 ·rw [if_pos h2,cha_st h1 (by rcases h2 with h2|h2;exact .inl h2;exact .inr (decide_eq_false h2)),if_pos (show (13:Int)≠0 by decide)]
  exact fin_f (by decide)
 rw [if_neg h2,cha_ok h1 (show ¬ ((enR d [72] x.s).s≠3∨decide ((enR d [72] x.s).p=x.k)=false) from fun e=>h2 (by rcases e with e|e;exact .inl e;exact .inr (of_decide_eq_false e)))]
 rw [if_neg (show ¬ (0:Int)≠0 by decide)]
 by_cases h3:gO d (kyW [80] x.s x.q)=some (comP x)
 rotate_left
 ·rw [if_pos h3,if_pos (.inl h3)]
  exact fin_f (by decide)
 rw [if_neg (not_not_intro h3)]
 cases h4:chaK d x.s
 ·rw [if_pos rfl,if_pos (.inr rfl)]
  exact fin_f (by decide)
 rw [if_neg (show ¬ true=false by decide),if_neg (show ¬ (gO d (kyW [80] x.s x.q)≠some (comP x)∨true=false) by simp [h3])]
 split
 ·rename_i h5
  exact fin_f h5
 split
 ·rename_i h5
  exact fin_f h5.2
 exact fin_id rfl
def edB (x:TxX):Bool:=if x.k=15 then decide (ackV x.a≠0) else true
def edE (d:List Ent)(x:TxX)(t:Int):Int:=if x.k=15 then prE d (chaN d x.x.s) x.t t (kyW [71] x.x.k x.x.q) (rcpB x.a) x.f else timE d x t
def endQ (d:List Ent)(x:TxX)(t:Int):Out18:=if chkP x.x=false∨(x.k=15∧ackIs x.a=false) then fQ 1 else endP d x.x (edB x) (edE d x t)
theorem fin_ack {d:List Ent}{x:TxX}{t:Int}(h:x.k=15):finQ d (endQ d x t)=acksR d x t:=by
 unfold endQ acksR
 by_cases h1:chkP x.x=false∨ackIs x.a=false
 ·rw [if_pos h1,if_pos (by rcases h1 with h1|h1;exact .inl h1;exact .inr ⟨h,h1⟩)]
  exact fin_f (by decide)
 ·rw [if_neg h1,if_neg (fun e=>h1 (by rcases e with e|e;exact .inl e;exact .inr e.2)),edB,edE,if_pos h,if_pos h]
  exact fin_end
theorem fin_tim {d:List Ent}{x:TxX}{t:Int}(h:x.k=16):finQ d (endQ d x t)=timR d x t:=by
 have hn:¬ x.k=15:=by rw [h];decide
 unfold endQ timR
 by_cases h1:chkP x.x=false
 ·rw [if_pos h1,if_pos (.inl h1)]
  exact fin_f (by decide)
 ·rw [if_neg h1,if_neg (fun e=>by rcases e with e|e;exact h1 e;exact hn e.1),edB,edE,if_neg hn,if_neg hn]
  exact fin_end
def doQ (d:List Ent)(x:TxX)(h t:Int):Out18:=
 if x.k=1∨x.k=2 then coinQ d x else if x.k=3∨x.k=4 then cliQ d x t else if x.k=5∨x.k=6 then begK d x (decide (x.k=6)) t else if x.k=9∨x.k=10 then begH d x (decide (x.k=10)) t
 else if x.k=7∨x.k=8 then opnK d x (decide (x.k=7)) t else if x.k=11∨x.k=12 then opnH d x (decide (x.k=11)) t else if x.k=13 then sndQ d x.x else if x.k=14 then rcvQ d x h t else if x.k=15∨x.k=16 then endQ d x t else fQ 1
theorem fin_do {d:List Ent}{x:TxX}{h t:Int}:finQ d (doQ d x h t)=doR d x h t:=by
 unfold doQ doR
 by_cases h1:x.k=1
 ·rw [if_pos (.inl h1),if_pos h1]
  exact fin_fund h1
 rw [if_neg h1]
 by_cases h2:x.k=2
 ·rw [if_pos (.inr h2),if_pos h2]
  exact fin_move h2
 rw [if_neg h2,if_neg (show ¬ (x.k=1∨x.k=2) by omega)]
 by_cases h3:x.k=3
 ·rw [if_pos (.inl h3),if_pos h3]
  exact fin_cre h3
 rw [if_neg h3]
 by_cases h4:x.k=4
 ·rw [if_pos (.inr h4),if_pos h4]
  exact fin_upd h4
 rw [if_neg h4,if_neg (show ¬ (x.k=3∨x.k=4) by omega)]
 by_cases h5:x.k=5∨x.k=6
 ·rw [if_pos h5,if_pos h5]
  exact fin_con
 rw [if_neg h5,if_neg h5]
 by_cases h6:x.k=7∨x.k=8
 ·rw [if_neg (show ¬ (x.k=9∨x.k=10) by omega),if_pos h6,if_pos h6]
  exact fin_cod
 rw [if_neg h6,if_neg h6]
 by_cases h7:x.k=9∨x.k=10
 ·rw [if_pos h7,if_pos h7]
  exact fin_opn
 rw [if_neg h7,if_neg h7]
 by_cases h8:x.k=11∨x.k=12
 ·rw [if_pos h8,if_pos h8]
  exact fin_opd
 rw [if_neg h8,if_neg h8]
 by_cases h9:x.k=13
 ·rw [if_pos h9,if_pos h9]
  exact fin_snd
 rw [if_neg h9,if_neg h9]
 by_cases h10:x.k=14
 ·rw [if_pos h10,if_pos h10]
  exact fin_rcv
 rw [if_neg h10,if_neg h10]
 by_cases h11:x.k=15
 ·rw [if_pos (.inl h11),if_pos h11]
  exact fin_ack h11
 rw [if_neg h11]
 by_cases h12:x.k=16
 ·rw [if_pos (.inr h12),if_pos h12]
  exact fin_tim h12
 rw [if_neg h12,if_neg (show ¬ (x.k=15∨x.k=16) by omega)]
 exact fin_f (by decide)
end Go.Proofs.YtppngnhckahbnaaGreatDoor
