/- chapter 18's world: what a transaction answers; a side behind a step -/
import Derived.Test.YtlmcongmglfaeaaGreatDoorD41
import Derived.Test.YtlmcongmglfaeaaGreatDoorD42
namespace Go.Proofs.YtlmcongmglfaeaaGreatDoor
open Go Go.RowKit Tw Av
abbrev qA (o:Out18):AV:=.agg 4 [dSl o.1,repA o.2]
def fQ (e:Int):Out18:=([],repE e)
def pQ (d:List Ent)(k v:Bs):Out18:=if (putR d k v).2=0 then ((putR d k v).1,rep0) else fQ (putR d k v).2
def finQ (d:List Ent)(q:Out18):Out18:=if q.2.e=0 then q else failR d q.2.e
theorem fin_f {d:List Ent}{e:Int}(h:e≠0):finQ d (fQ e)=failR d e:=by
 unfold finQ fQ repE
 rw [if_neg h]
theorem fin_p {d:List Ent}{k v:Bs}:finQ d (pQ d k v)=putsR d k v:=by
 unfold pQ putsR tellR
 split
 ·rfl
 ·rename_i h
  exact fin_f h
theorem fin_t {d:List Ent}{r:List Ent × Int}:finQ d (r.1,repE r.2)=tellR d r rep0:=by
 unfold finQ tellR repE
 dsimp only
 split
 ·rename_i h
  rw [h]
  rfl
 ·rfl
def coinQ (d:List Ent)(x:TxX):Out18:=if denB x.x.d=false\/plainB x.x.g=false\/(x.k=1/\0 < hopN x.x.d)\/(x.k=2/\plainB x.x.f=false) then fQ 1 else if x.k=1 then ((mintR d x.x.g x.x.d x.x.a).1,repE (mintR d x.x.g x.x.d x.x.a).2) else ((moveR d x.x.f x.x.g x.x.d x.x.a).1,repE (moveR d x.x.f x.x.g x.x.d x.x.a).2)
theorem fin_fund {d:List Ent}{x:TxX}(h:x.k=1):finQ d (coinQ d x)=fundR d x.x:=by
 unfold coinQ fundR
 by_cases h1:denB x.x.d=false\/0 < hopN x.x.d\/plainB x.x.g=false
 ·rw [if_pos h1,if_pos (by rcases h1 with h1|h1|h1;exact .inl h1;exact .inr (.inr (.inl ⟨h,h1⟩));exact .inr (.inl h1)),fin_f (by decide)]
 ·rw [if_neg h1,if_neg (fun e=>h1 (by rcases e with e|e|e|e;exact .inl e;exact .inr (.inr e);exact .inr (.inl e.2);exact absurd (h.symm.trans e.1) (by decide))),if_pos h,fin_t]
theorem fin_move {d:List Ent}{x:TxX}(h:x.k=2):finQ d (coinQ d x)=movR d x.x:=by
 have hn:¬ x.k=1:=by rw [h];decide
 unfold coinQ movR
 by_cases h1:denB x.x.d=false\/plainB x.x.f=false\/plainB x.x.g=false
 ·rw [if_pos h1,if_pos (by rcases h1 with h1|h1|h1;exact .inl h1;exact .inr (.inr (.inr ⟨h,h1⟩));exact .inr (.inl h1)),fin_f (by decide)]
 ·rw [if_neg h1,if_neg (fun e=>h1 (by rcases e with e|e|e|e;exact .inl e;exact .inr (.inr e);exact absurd e.1 hn;exact .inr (.inl e.2))),if_neg hn,fin_t]
def cliQ (d:List Ent)(x:TxX)(t:Int):Out18:=
 if x.k=4 then (if clB d x.i=false then fQ 12 else if updE (clR d x.i) x.h x.m t≠0 then fQ (updE (clR d x.i) x.h x.m t) else pQ d (kyO [67] x.i) (cliB (updC (clR d x.i) x.h x.m t)))
 else if partB x.i=false then fQ 1 else if clB d x.i=true then fQ 13 else if newE x.y x.e x.h≠0 then fQ (newE x.y x.e x.h) else pQ d (kyO [67] x.i) (cliB (newR x.y x.e x.h))
theorem fin_upd {d:List Ent}{x:TxX}{t:Int}(h:x.k=4):finQ d (cliQ d x t)=updR d x t:=by
 unfold cliQ updR
 rw [if_pos h]
 split
 ·exact fin_f (by decide)
 ·split
  ·rename_i h1
   exact fin_f h1
  ·exact fin_p
theorem fin_cre {d:List Ent}{x:TxX}{t:Int}(h:x.k=3):finQ d (cliQ d x t)=creR d x:=by
 unfold cliQ creR
 rw [if_neg (by rw [h];decide)]
 split
 ·exact fin_f (by decide)
 ·split
  ·exact fin_f (by decide)
  ·split
   ·rename_i h1
    exact fin_f h1
   ·exact fin_p
def begP (d:List Ent)(x:TxX)(i k:Bs)(try':Bool)(t:Int):Out18:=
 if try'=false then (if (initE x.o x.q).2≠0 then fQ (initE x.o x.q).2 else pQ d (kyO k x.i) (enxB (initE x.o x.q).1))
 else if prE d i x.t t (kyO k x.p) (enxB ⟨1,x.q,x.o,[]⟩) x.f≠0 then fQ (prE d i x.t t (kyO k x.p) (enxB ⟨1,x.q,x.o,[]⟩) x.f)
 else if (tryE x.o x.p ⟨1,x.q,x.o,[]⟩).2≠0 then fQ (tryE x.o x.p ⟨1,x.q,x.o,[]⟩).2
 else pQ d (kyO k x.i) (enxB (tryE x.o x.p ⟨1,x.q,x.o,[]⟩).1)
theorem fin_beg {d:List Ent}{x:TxX}{i k:Bs}{b:Bool}{t:Int}:finQ d (begP d x i k b t)=begR d x i k b t:=by
 unfold begP begR
 split
 ·split
  ·rename_i h1
   exact fin_f h1
  ·exact fin_p
 ·split
  ·rename_i h1
   exact fin_f h1
  ·split
   ·rename_i h1
    exact fin_f h1
   ·exact fin_p
def begK (d:List Ent)(x:TxX)(b:Bool)(t:Int):Out18:=if partB x.i=false then fQ 1 else if enB d [75] x.i=true then fQ 13 else if clB d x.o=false then fQ 12 else begP d x x.o [75] b t
def begH (d:List Ent)(x:TxX)(b:Bool)(t:Int):Out18:=if partB x.i=false then fQ 1 else if enB d [72] x.i=true then fQ 13 else if enB d [75] x.o=false then fQ 12 else if (enR d [75] x.o).s≠3 then fQ 13 else begP d x (enR d [75] x.o).o [72] b t
theorem fin_con {d:List Ent}{x:TxX}{t:Int}:finQ d (begK d x (decide (x.k=6)) t)=conR d x t:=by
 unfold begK conR
 split
 ·exact fin_f (by decide)
 ·split
  ·exact fin_f (by decide)
  ·split
   ·exact fin_f (by decide)
   ·exact fin_beg
theorem fin_opn {d:List Ent}{x:TxX}{t:Int}:finQ d (begH d x (decide (x.k=10)) t)=opnR d x t:=by
 unfold begH opnR
 split
 ·exact fin_f (by decide)
 ·split
  ·exact fin_f (by decide)
  ·split
   ·exact fin_f (by decide)
   ·split
    ·exact fin_f (by decide)
    ·exact fin_beg
def joiP (d:List Ent)(x:TxX)(i k pp:Bs)(th:EndX)(r:EndX × Int)(t:Int):Out18:=if prE d i x.t t (kyO k pp) (enxB th) x.f≠0 then fQ (prE d i x.t t (kyO k pp) (enxB th) x.f) else if r.2≠0 then fQ r.2 else pQ d (kyO k x.i) (enxB r.1)
theorem fin_joi {d:List Ent}{x:TxX}{i k pp:Bs}{th:EndX}{r:EndX × Int}{t:Int}:finQ d (joiP d x i k pp th r t)=joiQ d x i k pp th r t:=by
 unfold joiP joiQ
 split
 ·rename_i h1
  exact fin_f h1
 ·split
  ·rename_i h1
   exact fin_f h1
  ·exact fin_p
def joiO (d:List Ent)(x:TxX)(own:EndX)(i k:Bs)(ack:Bool)(t:Int):Out18:=if ack=true then joiP d x i k x.p ⟨2,own.q,own.o,x.i⟩ (ackE own x.i x.p ⟨2,own.q,own.o,x.i⟩) t else joiP d x i k own.p ⟨3,own.q,own.o,x.i⟩ (cnfE own x.i ⟨3,own.q,own.o,x.i⟩) t
theorem fin_joo {d:List Ent}{x:TxX}{own:EndX}{i k:Bs}{b:Bool}{t:Int}:finQ d (joiO d x own i k b t)=joiR d x own i k b t:=by
 cases b
 ·rw [joi_f]
  exact fin_joi
 ·rw [joi_t]
  exact fin_joi
def opnK (d:List Ent)(x:TxX)(b:Bool)(t:Int):Out18:=if enB d [75] x.i=false then fQ 12 else joiO d x (enR d [75] x.i) (enR d [75] x.i).o [75] b t
def opnH (d:List Ent)(x:TxX)(b:Bool)(t:Int):Out18:=if enB d [72] x.i=false then fQ 12 else if enB d [75] (enR d [72] x.i).o=false then fQ 12 else joiO d x (enR d [72] x.i) (enR d [75] (enR d [72] x.i).o).o [72] b t
theorem fin_cod {d:List Ent}{x:TxX}{t:Int}:finQ d (opnK d x (decide (x.k=7)) t)=codR d x t:=by
 unfold opnK codR
 split
 ·exact fin_f (by decide)
 ·exact fin_joo
theorem fin_opd {d:List Ent}{x:TxX}{t:Int}:finQ d (opnH d x (decide (x.k=11)) t)=opdR d x t:=by
 unfold opnH opdR
 cases h1:enB d [72] x.i
 ·rw [if_pos rfl,if_pos (.inl rfl)]
  exact fin_f (by decide)
 ·rw [if_neg (show ¬ true=false by decide)]
  cases h2:enB d [75] (enR d [72] x.i).o
  ·rw [if_pos rfl,if_pos (.inr rfl)]
   exact fin_f (by decide)
  ·rw [if_neg (show ¬ true=false by decide),if_neg (by simp)]
   exact fin_joo

attribute [local irreducible] clB enB
theorem imp_f {e:Int}:Imp (outOf [.agg 4 [.lit (.slice none 0 0),.agg 3 [int e,.lit (.int .i64 0),str []]]]) (qA (fQ e)):=(inferInstance:ImpR (.agg 4 [.lit (.slice none 0 0),.agg 3 [int e,.lit (.int .i64 0),str []]]) (.agg 4 [.sl 2 [] none,.agg 3 [int e,int 0,str []]])).imp
instance fnR18Fails {e:Int}:Ans Tryz.prog GL 142 [int e] True (qA (fQ e)):=⟨fun _=>by
 refine qE Tryz.func142 rfl Tryz.ntmps142 rfl (fun _ hs=>?_)
 repeat' first|refine Zz ?_|intro _
 refine reI ?_
 exact imp_f⟩
instance fnR18Puts {d:List Ent}{k v:Bs}{xs:List AV}{id:Option Value}[hx:Ents xs d]:Ans Tryz.prog GL 237 [.sl 2 xs id,str k,str v] (DOk d) (qA (pQ d k v)):=⟨fun hd=>by
 refine qE Tryz.func237 rfl Tryz.ntmps237 rfl (fun _ hs=>?_)
 repeat' first|refine Zz ?_|intro _
 unfold pQ
 by_cases h:(putR d k v).2=0
 ·rw [if_pos h,dZ (nni h)]
  repeat' first|refine Zz ?_|intro _
  refine reE ?_
  rfl
 ·rw [if_neg h,dT h]
  repeat' first|refine Zz ?_|intro _
  refine reE ?_
  rfl⟩
set_option maxHeartbeats 2000000 in
instance fnR18Coins {d:List Ent}{x:TxX}{xs:List AV}{id:Option Value}[hx:Ents xs d]:Ans Tryz.prog GL 135 [.sl 2 xs id,txA x] (DOk d/\TxB x) (qA (coinQ d x)):=⟨fun hp=>by
 obtain⟨hd,hb⟩:=hp
 have b1:=hb.d
 have b2:=hb.f
 have b3:=hb.g
 refine qE Tryz.func135 rfl Tryz.ntmps135 rfl (fun _ hs=>?_)
 repeat' first|refine Zz ?_|intro _
 unfold coinQ
 cases h1:denB x.x.d
 ·rw [if_pos (.inl rfl)]
  repeat' first|refine Zz ?_|intro _
  refine reE ?_
  rfl
 cases h2:plainB x.x.g
 ·rw [if_pos (.inr (.inl rfl))]
  repeat' first|refine Zz ?_|intro _
  refine reE ?_
  rfl
 repeat' first|refine Zz ?_|intro _
 by_cases h3:x.k=1
 ·have h3':¬ x.k=2:=by omega
  rw [if_pos h3,dT h3]
  repeat' first|refine Zz ?_|intro _
  by_cases h4:0 < hopN x.x.d
  ·rw [if_pos (.inr (.inr (.inl ⟨h3,h4⟩))),dT (show (0:Int) < ((hopN x.x.d:Nat):Int) by omega)]
   repeat' first|refine Zz ?_|intro _
   refine reE ?_
   rfl
  ·rw [if_neg (show ¬ (true=false\/true=false\/(x.k=1/\0 < hopN x.x.d)\/(x.k=2/\plainB x.x.f=false)) by simp [h4,h3']),dZ (show ¬ (0:Int) < ((hopN x.x.d:Nat):Int) by omega)]
   repeat' first|refine Zz ?_|intro _
   rw [dZ h3']
   repeat' first|refine Zz ?_|intro _
   refine reE ?_
   rfl
 ·rw [if_neg h3,dZ h3]
  repeat' first|refine Zz ?_|intro _
  by_cases h5:x.k=2
  ·rw [dT h5]
   repeat' first|refine Zz ?_|intro _
   cases h6:plainB x.x.f
   ·rw [if_pos (.inr (.inr (.inr ⟨h5,rfl⟩)))]
    repeat' first|refine Zz ?_|intro _
    refine reE ?_
    rfl
   ·rw [if_neg (show ¬ (true=false\/true=false\/(x.k=1/\0 < hopN x.x.d)\/(x.k=2/\true=false)) by simp [h3])]
    repeat' first|refine Zz ?_|intro _
    refine reE ?_
    rfl
  ·rw [if_neg (show ¬ (true=false\/true=false\/(x.k=1/\0 < hopN x.x.d)\/(x.k=2/\plainB x.x.f=false)) by simp [h3,h5]),dZ h5]
   repeat' first|refine Zz ?_|intro _
   refine reE ?_
   rfl⟩
set_option maxHeartbeats 2000000 in
instance fnR18Clients {d:List Ent}{t:Int}{x:TxX}{xs:List AV}{id:Option Value}[hx:Ents xs d]:Ans Tryz.prog GL 136 [.sl 2 xs id,txA x,int t] (DOk d/\TxB x) (qA (cliQ d x t)):=⟨fun hp=>by
 obtain⟨hd,hb⟩:=hp
 have b1:=hb.i
 have b2:=hb.hh
 have b3:=hb.ht
 have hF:=clF d x.i
 have q1:CliOk (clR d x.i)/\(Rise (clR d x.i).l/\(clR d x.i).l.length<=32)/\x.h.h<=9223372036854775807/\x.h.t<=9223372036854775807:=⟨hF.ok,⟨hF.r,hF.n⟩,b2,b3⟩
 have hw:CliW (newR x.y x.e x.h):=by
  unfold newR
  split
  ·rename_i h
   exact (may_f h).w
  ·exact zero_f.w
 have hw2:CliW (updC (clR d x.i) x.h x.m t):=updC_w hF b2 b3
 refine qE Tryz.func136 rfl Tryz.ntmps136 rfl (fun _ hs=>?_)
 repeat' first|refine Zz ?_|intro _
 unfold cliQ
 by_cases h1:x.k=4
 ·rw [if_pos h1,dT h1]
  repeat' first|refine Zz ?_|intro _
  cases h2:clB d x.i
  ·rw [if_pos rfl]
   repeat' first|refine Zz ?_|intro _
   refine reE ?_
   rfl
  rw [if_neg (show ¬ true=false by decide)]
  repeat' first|refine Zz ?_|intro _
  by_cases h3:updE (clR d x.i) x.h x.m t=0
  rotate_left
  ·rw [if_pos h3,dT h3]
   repeat' first|refine Zz ?_|intro _
   refine reE ?_
   rfl
  rw [if_neg (nni h3),dZ (nni h3)]
  repeat' first|refine Zz ?_|intro _
  refine reE ?_
  rfl
 rw [if_neg h1,dZ h1]
 repeat' first|refine Zz ?_|intro _
 cases h2:partB x.i
 ·rw [if_pos rfl]
  repeat' first|refine Zz ?_|intro _
  refine reE ?_
  rfl
 rw [if_neg (show ¬ true=false by decide)]
 repeat' first|refine Zz ?_|intro _
 cases h3:clB d x.i
 rotate_left
 ·rw [if_pos rfl]
  repeat' first|refine Zz ?_|intro _
  refine reE ?_
  rfl
 rw [if_neg (show ¬ false=true by decide)]
 repeat' first|refine Zz ?_|intro _
 by_cases h4:newE x.y x.e x.h=0
 rotate_left
 ·rw [if_pos h4,dT h4]
  repeat' first|refine Zz ?_|intro _
  refine reE ?_
  rfl
 rw [if_neg (nni h4),dZ (nni h4)]
 repeat' first|refine Zz ?_|intro _
 refine reE ?_
 rfl⟩
end Go.Proofs.YtlmcongmglfaeaaGreatDoor

namespace Go.Proofs.YtlmcongmglfaeaaGreatDoor
open Go Go.RowKit Tw Av
attribute [local irreducible] clB enB
theorem part_len {s:Bs}(h:partB s=true):s.length<=32:=by
 unfold partB at h
 rw [bet,decide_eq_true_iff] at h
 exact h.2.2
theorem red_len (s:Bs):(redV s).o.length<=32/\(redV s).q.length<=32/\(redV s).p.length<=32/\(redV s).s<=4:=by
 unfold redV
 split
 ·rename_i h
  unfold reOk at h
  rw [bet] at h
  have h:=h.2
  unfold chkE at h
  simp only [Bool.and_eq_true,decide_eq_true_eq] at h
  obtain⟨h1,h2,h3,h4⟩:=h
  refine⟨part_len h2,part_len h3,?_,h1.2⟩
  split at h4
  ·rw [of_decide_eq_true h4]
   simp
  ·exact part_len h4
 ·decide
theorem en_len (d:List Ent)(k i:Bs):(enR d k i).o.length<=32/\(enR d k i).q.length<=32/\(enR d k i).p.length<=32/\(enR d k i).s<=4:=red_len _
instance fnR18UnderK {d:List Ent}{o:Bs}{xs:List AV}{id:Option Value}[Ents xs d]:Ans Tryz.prog GL 240 [.sl 2 xs id,str [75],str o] (DOk d) (.tup [str o,boo true]):=⟨fun hd=>by
 refine qE Tryz.func240 rfl Tryz.ntmps240 rfl (fun _ hs=>?_)
 repeat' first|refine Zz ?_|intro _
 refine reE ?_
 rfl⟩
instance fnR18UnderH {d:List Ent}{o:Bs}{xs:List AV}{id:Option Value}[hx:Ents xs d]:Ans Tryz.prog GL 240 [.sl 2 xs id,str [72],str o] (DOk d) (.tup [str (enR d [75] o).o,boo (enB d [75] o)]):=⟨fun hd=>by
 refine qE Tryz.func240 rfl Tryz.ntmps240 rfl (fun _ hs=>?_)
 repeat' first|refine Zz ?_|intro _
 refine reE ?_
 rfl⟩
set_option maxHeartbeats 4000000 in
instance fnR18BeginsK {d:List Ent}{t:Int}{x:TxX}{b:Bool}{xs:List AV}{id:Option Value}[hx:Ents xs d]:Ans Tryz.prog GL 137 [.sl 2 xs id,txA x,str [75],boo b,int t] (DOk d/\TxB x) (qA (begK d x b t)):=⟨fun hp=>by
 obtain⟨hd,hb⟩:=hp
 have b1:=hb.i
 have b2:=hb.o
 have b3:=hb.p
 have b4:=hb.q
 have e1:=initE_s (o:=x.o) (q:=x.q)
 have e2:=tryE_s (o:=x.o) (p:=x.p) (t:=⟨1,x.q,x.o,[]⟩)
 have q1:DOk d/\x.f.m<=9223372036854775807:=⟨hd,hb.fm⟩
 refine qE Tryz.func137 rfl Tryz.ntmps137 rfl (fun _ hs=>?_)
 repeat' first|refine Zz ?_|intro _
 unfold begK begP
 cases h1:partB x.i
 ·rw [if_pos rfl]
  repeat' first|refine Zz ?_|intro _
  refine reE ?_
  rfl
 rw [if_neg (show ¬ true=false by decide)]
 repeat' first|refine Zz ?_|intro _
 cases h2:enB d [75] x.i
 rotate_left
 ·rw [if_pos rfl]
  repeat' first|refine Zz ?_|intro _
  refine reE ?_
  rfl
 rw [if_neg (show ¬ false=true by decide)]
 repeat' first|refine Zz ?_|intro _
 cases h3:clB d x.o
 ·rw [if_pos rfl]
  repeat' first|refine Zz ?_|intro _
  refine reE ?_
  rfl
 rw [if_neg (show ¬ true=false by decide)]
 repeat' first|refine Zz ?_|intro _
 cases b
 ·rw [if_pos rfl]
  repeat' first|refine Zz ?_|intro _
  by_cases h6:(initE x.o x.q).2=0
  rotate_left
  ·rw [if_pos h6,dT h6]
   repeat' first|refine Zz ?_|intro _
   refine reE ?_
   rfl
  rw [if_neg (nni h6),dZ (nni h6)]
  repeat' first|refine Zz ?_|intro _
  refine reE ?_
  rfl
 rw [if_neg (show ¬ true=false by decide)]
 repeat' first|refine Zz ?_|intro _
 by_cases h7:prE d x.o x.t t (kyO [75] x.p) (enxB ⟨1,x.q,x.o,[]⟩) x.f=0
 rotate_left
 ·rw [if_pos h7,dT h7]
  repeat' first|refine Zz ?_|intro _
  refine reE ?_
  rfl
 rw [if_neg (nni h7),dZ (nni h7)]
 repeat' first|refine Zz ?_|intro _
 by_cases h8:(tryE x.o x.p ⟨1,x.q,x.o,[]⟩).2=0
 rotate_left
 ·rw [if_pos h8,dT h8]
  repeat' first|refine Zz ?_|intro _
  refine reE ?_
  rfl
 rw [if_neg (nni h8),dZ (nni h8)]
 repeat' first|refine Zz ?_|intro _
 refine reE ?_
 rfl⟩
set_option maxHeartbeats 4000000 in
instance fnR18BeginsH {d:List Ent}{t:Int}{x:TxX}{b:Bool}{xs:List AV}{id:Option Value}[hx:Ents xs d]:Ans Tryz.prog GL 137 [.sl 2 xs id,txA x,str [72],boo b,int t] (DOk d/\TxB x) (qA (begH d x b t)):=⟨fun hp=>by
 obtain⟨hd,hb⟩:=hp
 have b1:=hb.i
 have b2:=hb.o
 have b3:=hb.p
 have b4:=hb.q
 have e1:=initE_s (o:=x.o) (q:=x.q)
 have e2:=tryE_s (o:=x.o) (p:=x.p) (t:=⟨1,x.q,x.o,[]⟩)
 have q1:DOk d/\x.f.m<=9223372036854775807:=⟨hd,hb.fm⟩
 refine qE Tryz.func137 rfl Tryz.ntmps137 rfl (fun _ hs=>?_)
 repeat' first|refine Zz ?_|intro _
 unfold begH begP
 cases h1:partB x.i
 ·rw [if_pos rfl]
  repeat' first|refine Zz ?_|intro _
  refine reE ?_
  rfl
 rw [if_neg (show ¬ true=false by decide)]
 repeat' first|refine Zz ?_|intro _
 cases h2:enB d [72] x.i
 rotate_left
 ·rw [if_pos rfl]
  repeat' first|refine Zz ?_|intro _
  refine reE ?_
  rfl
 rw [if_neg (show ¬ false=true by decide)]
 repeat' first|refine Zz ?_|intro _
 cases h3:enB d [75] x.o
 ·rw [if_pos rfl]
  repeat' first|refine Zz ?_|intro _
  refine reE ?_
  rfl
 rw [if_neg (show ¬ true=false by decide)]
 repeat' first|refine Zz ?_|intro _
 by_cases h4:(enR d [75] x.o).s=3
 rotate_left
 ·rw [if_pos h4,dT h4]
  repeat' first|refine Zz ?_|intro _
  refine reE ?_
  rfl
 rw [if_neg (nni h4),dZ (nni h4)]
 repeat' first|refine Zz ?_|intro _
 cases b
 ·rw [if_pos rfl]
  repeat' first|refine Zz ?_|intro _
  by_cases h6:(initE x.o x.q).2=0
  rotate_left
  ·rw [if_pos h6,dT h6]
   repeat' first|refine Zz ?_|intro _
   refine reE ?_
   rfl
  rw [if_neg (nni h6),dZ (nni h6)]
  repeat' first|refine Zz ?_|intro _
  refine reE ?_
  rfl
 rw [if_neg (show ¬ true=false by decide)]
 repeat' first|refine Zz ?_|intro _
 by_cases h7:prE d (enR d [75] x.o).o x.t t (kyO [72] x.p) (enxB ⟨1,x.q,x.o,[]⟩) x.f=0
 rotate_left
 ·rw [if_pos h7,dT h7]
  repeat' first|refine Zz ?_|intro _
  refine reE ?_
  rfl
 rw [if_neg (nni h7),dZ (nni h7)]
 repeat' first|refine Zz ?_|intro _
 by_cases h8:(tryE x.o x.p ⟨1,x.q,x.o,[]⟩).2=0
 rotate_left
 ·rw [if_pos h8,dT h8]
  repeat' first|refine Zz ?_|intro _
  refine reE ?_
  rfl
 rw [if_neg (nni h8),dZ (nni h8)]
 repeat' first|refine Zz ?_|intro _
 refine reE ?_
 rfl⟩
set_option maxHeartbeats 4000000 in
instance fnR18OpensK {d:List Ent}{t:Int}{x:TxX}{b:Bool}{xs:List AV}{id:Option Value}[hx:Ents xs d]:Ans Tryz.prog GL 138 [.sl 2 xs id,txA x,str [75],boo b,int t] (DOk d/\TxB x) (qA (opnK d x b t)):=⟨fun hp=>by
 obtain⟨hd,hb⟩:=hp
 have b1:=hb.i
 have b3:=hb.p
 have q1:DOk d/\x.f.m<=9223372036854775807:=⟨hd,hb.fm⟩
 obtain⟨l1,l2,l3,l4⟩:=en_len d [75] x.i
 refine qE Tryz.func138 rfl Tryz.ntmps138 rfl (fun _ hs=>?_)
 repeat' first|refine Zz ?_|intro _
 unfold opnK
 cases h1:enB d [75] x.i
 ·rw [if_pos rfl]
  repeat' first|refine Zz ?_|intro _
  refine reE ?_
  rfl
 rw [if_neg (show ¬ true=false by decide)]
 repeat' first|refine Zz ?_|intro _
 unfold joiO
 generalize hE:enR d [75] x.i=E at *
 obtain⟨es,eo,eq,ep⟩:=E
 dsimp only at l1 l2 l3 l4
 have e1:=ackE_s (x:=⟨es,eo,eq,ep⟩) (i:=x.i) (p:=x.p) (t:=⟨2,eq,eo,x.i⟩)
 have e2:(cnfE ⟨es,eo,eq,ep⟩ x.i ⟨3,eq,eo,x.i⟩).1.s<=9223372036854775807:=openE_s
 cases b
 ·rw [if_neg (show ¬ false=true by decide)]
  unfold joiP
  repeat' first|refine Zz ?_|intro _
  by_cases h7:prE d eo x.t t (kyO [75] ep) (enxB ⟨3,eq,eo,x.i⟩) x.f=0
  rotate_left
  ·rw [if_pos h7,dT h7]
   repeat' first|refine Zz ?_|intro _
   refine reE ?_
   rfl
  rw [if_neg (nni h7),dZ (nni h7)]
  repeat' first|refine Zz ?_|intro _
  by_cases h8:(cnfE ⟨es,eo,eq,ep⟩ x.i ⟨3,eq,eo,x.i⟩).2=0
  rotate_left
  ·rw [if_pos h8,dT h8]
   repeat' first|refine Zz ?_|intro _
   refine reE ?_
   rfl
  rw [if_neg (nni h8),dZ (nni h8)]
  repeat' first|refine Zz ?_|intro _
  refine reE ?_
  rfl
 ·rw [if_pos rfl]
  unfold joiP
  repeat' first|refine Zz ?_|intro _
  by_cases h7:prE d eo x.t t (kyO [75] x.p) (enxB ⟨2,eq,eo,x.i⟩) x.f=0
  rotate_left
  ·rw [if_pos h7,dT h7]
   repeat' first|refine Zz ?_|intro _
   refine reE ?_
   rfl
  rw [if_neg (nni h7),dZ (nni h7)]
  repeat' first|refine Zz ?_|intro _
  by_cases h8:(ackE ⟨es,eo,eq,ep⟩ x.i x.p ⟨2,eq,eo,x.i⟩).2=0
  rotate_left
  ·rw [if_pos h8,dT h8]
   repeat' first|refine Zz ?_|intro _
   refine reE ?_
   rfl
  rw [if_neg (nni h8),dZ (nni h8)]
  repeat' first|refine Zz ?_|intro _
  refine reE ?_
  rfl⟩
set_option maxHeartbeats 4000000 in
instance fnR18OpensH {d:List Ent}{t:Int}{x:TxX}{b:Bool}{xs:List AV}{id:Option Value}[hx:Ents xs d]:Ans Tryz.prog GL 138 [.sl 2 xs id,txA x,str [72],boo b,int t] (DOk d/\TxB x) (qA (opnH d x b t)):=⟨fun hp=>by
 obtain⟨hd,hb⟩:=hp
 have b1:=hb.i
 have b3:=hb.p
 have q1:DOk d/\x.f.m<=9223372036854775807:=⟨hd,hb.fm⟩
 obtain⟨l1,l2,l3,l4⟩:=en_len d [72] x.i
 refine qE Tryz.func138 rfl Tryz.ntmps138 rfl (fun _ hs=>?_)
 repeat' first|refine Zz ?_|intro _
 unfold opnH
 cases h1:enB d [72] x.i
 ·rw [if_pos rfl]
  repeat' first|refine Zz ?_|intro _
  refine reE ?_
  rfl
 rw [if_neg (show ¬ true=false by decide)]
 repeat' first|refine Zz ?_|intro _
 cases h3:enB d [75] (enR d [72] x.i).o
 ·rw [if_pos rfl]
  repeat' first|refine Zz ?_|intro _
  refine reE ?_
  rfl
 rw [if_neg (show ¬ true=false by decide)]
 repeat' first|refine Zz ?_|intro _
 unfold joiO
 generalize hE:enR d [72] x.i=E at *
 obtain⟨es,eo,eq,ep⟩:=E
 dsimp only at l1 l2 l3 l4
 have e1:=ackE_s (x:=⟨es,eo,eq,ep⟩) (i:=x.i) (p:=x.p) (t:=⟨2,eq,eo,x.i⟩)
 have e2:(cnfE ⟨es,eo,eq,ep⟩ x.i ⟨3,eq,eo,x.i⟩).1.s<=9223372036854775807:=openE_s
 cases b
 ·rw [if_neg (show ¬ false=true by decide)]
  unfold joiP
  repeat' first|refine Zz ?_|intro _
  by_cases h7:prE d (enR d [75] eo).o x.t t (kyO [72] ep) (enxB ⟨3,eq,eo,x.i⟩) x.f=0
  rotate_left
  ·rw [if_pos h7,dT h7]
   repeat' first|refine Zz ?_|intro _
   refine reE ?_
   rfl
  rw [if_neg (nni h7),dZ (nni h7)]
  repeat' first|refine Zz ?_|intro _
  by_cases h8:(cnfE ⟨es,eo,eq,ep⟩ x.i ⟨3,eq,eo,x.i⟩).2=0
  rotate_left
  ·rw [if_pos h8,dT h8]
   repeat' first|refine Zz ?_|intro _
   refine reE ?_
   rfl
  rw [if_neg (nni h8),dZ (nni h8)]
  repeat' first|refine Zz ?_|intro _
  refine reE ?_
  rfl
 ·rw [if_pos rfl]
  unfold joiP
  repeat' first|refine Zz ?_|intro _
  by_cases h7:prE d (enR d [75] eo).o x.t t (kyO [72] x.p) (enxB ⟨2,eq,eo,x.i⟩) x.f=0
  rotate_left
  ·rw [if_pos h7,dT h7]
   repeat' first|refine Zz ?_|intro _
   refine reE ?_
   rfl
  rw [if_neg (nni h7),dZ (nni h7)]
  repeat' first|refine Zz ?_|intro _
  by_cases h8:(ackE ⟨es,eo,eq,ep⟩ x.i x.p ⟨2,eq,eo,x.i⟩).2=0
  rotate_left
  ·rw [if_pos h8,dT h8]
   repeat' first|refine Zz ?_|intro _
   refine reE ?_
   rfl
  rw [if_neg (nni h8),dZ (nni h8)]
  repeat' first|refine Zz ?_|intro _
  refine reE ?_
  rfl⟩
end Go.Proofs.YtlmcongmglfaeaaGreatDoor

namespace Go.Proofs.YtlmcongmglfaeaaGreatDoor
open Go Go.RowKit Tw Av
theorem lat_rng (d:List Ent)(i:Bs):0<=(latC (clR d i).l).h/\(latC (clR d i).l).h<=1099511627776:=by
 unfold clR
 rcases rcd_or (valE d (kyO [67] i)) with h|h
 ·obtain⟨⟨h1,h2,h3,h4,h5⟩,h6⟩:=all_iff.1 h
  have hne:(rcdV (valE d (kyO [67] i))).l≠[]:=fun e=>by rw [e] at h4;simp at h4
  obtain⟨_,_,c3,c4,_,_⟩:=chkH_iff.1 (may_chk h _ (lat_mem hne))
  exact⟨by simp only [hdOf] at c3;omega,c4⟩
 ·rw [h]
  decide
theorem knX_rng (x:SideX)(i:Bool):0<=knX x i/\knX x i<=1099511627776:=lat_rng _ _
theorem pastX_ok {N:Nat}{y:SideX}(h:SOk N y)(k:Int):DOk (pastX y k):=by
 unfold pastX
 split
 ·rename_i hk
  have hl:(k - 1).toNat < y.p.length:=by omega
  rw [List.getD_eq_getElem?_getD,List.getElem?_eq_getElem hl]
  exact h.p _ (List.getElem_mem hl)
 ·exact .nil
theorem memK_m (d:List Ent)(k:Bs):(memK d k).m=0\/(memK d k).m=d.length:=by
 unfold memK memP
 split
 ·exact .inr rfl
 ·exact .inl rfl
theorem memK_b {d:List Ent}{k:Bs}(h:DOk d):(memK d k).m<=2000:=by
 have hl:=h.l
 rcases memK_m d k with e|e <;> rw [e] <;> omega
theorem absK_b {d:List Ent}{k:Bs}(h:DOk d):(absK d k).a.m<=2000/\(absK d k).b.m<=2000:=by
 have hl:=h.l
 unfold absK absG
 split
 ·decide
 ·dsimp only
  constructor
  ·split
   ·simp only [atP];omega
   ·decide
  ·split
   ·simp only [atP];omega
   ·decide
theorem zeroPk_b:PkB zeroPk:=⟨by decide,by decide,by decide,by decide,by decide,by decide,by decide,by decide⟩
theorem atPk_b {l:List Pkt}(h:∀ p ∈ l,PkB p)(n:Int):PkB (atPk l n):=by
 unfold atPk
 generalize (pickI n l.length).toNat=i
 by_cases hi:i < l.length
 ·rw [List.getD_eq_getElem?_getD,List.getElem?_eq_getElem hi]
  exact h _ (List.getElem_mem hi)
 ·rw [List.getD_eq_getElem?_getD,List.getElem?_eq_none (by omega)]
  exact zeroPk_b
theorem ackTo_b {g:List Pkt}{a:List Bs}(h:∀ p ∈ a,p.length<=400000000)(p:Pkt):∀ n,(ackTo g a p n).length<=400000000
 | 0=>by show 1<=400000000;decide
 | n + 1=>by
  unfold ackTo
  split
  ·by_cases hi:n < a.length
   ·rw [List.getD_eq_getElem?_getD,List.getElem?_eq_getElem hi]
    exact h _ (List.getElem_mem hi)
   ·rw [List.getD_eq_getElem?_getD,List.getElem?_eq_none (by omega)]
    exact Nat.zero_le _
  ·exact ackTo_b h p n
theorem nm_len (i:Bool):(nmK i).length=2/\(nmN i).length=2/\(nmH i).length=2:=by
 cases i <;> decide
theorem txK_b (n k:Int):TxB (txK n k):=⟨Nat.zero_le _,Nat.zero_le _,Nat.zero_le _,Nat.zero_le _,Nat.zero_le _,Nat.zero_le _,Nat.zero_le _,Nat.zero_le _,Nat.zero_le _,Nat.zero_le _,Nat.zero_le _,by show (0:Int)<=_;decide,by show (0:Int)<=_;decide,by show (0:Int)<=_;decide,by show (0:Int)<=_/\(0:Int)<=_;decide⟩
theorem hdrX_b {N:Nat}{y:SideX}(h:SOk N y)(hN:N<=1000):(hdrX y y.h).h<=9223372036854775807/\(hdrX y y.h).t<=9223372036854775807:=by
 have h1:=h.h
 have h2:=h.hN
 refine⟨by simp only [hdrX];omega,?_⟩
 simp only [hdrX]
 by_cases hi:(y.h - 1).toNat < y.ts.length
 ·rw [List.getD_eq_getElem?_getD,List.getElem?_eq_getElem hi]
  have:=(h.ts _ (List.getElem_mem hi)).2
  simp only [Option.getD_some]
  omega
 ·rw [List.getD_eq_getElem?_getD,List.getElem?_eq_none (by omega)]
  decide
theorem hanX_b {N:Nat}{y:SideX}(h:SOk N y)(i:Bool)(n k:Int):TxB (hanX i n k (pastX y k)):=by
 have n1:=nm_len i
 have n2:=nm_len (!i)
 unfold hanX
 split
 ·have hm:=memK_b (k:=kyO [72] (nmH (!i))) (pastX_ok h k)
  exact⟨by show (nmH i).length<=_;omega,by show (nmN i).length<=_;omega,by show (nmH (!i)).length<=_;omega,by show (nmN (!i)).length<=_;omega,Nat.zero_le _,Nat.zero_le _,Nat.zero_le _,Nat.zero_le _,Nat.zero_le _,Nat.zero_le _,Nat.zero_le _,by show (0:Int)<=_;decide,by show (0:Int)<=_;decide,Int.le_trans hm (by decide),by show (0:Int)<=_/\(0:Int)<=_;decide⟩
 ·have hm:=memK_b (k:=kyO [75] (nmN (!i))) (pastX_ok h k)
  exact⟨by show (nmN i).length<=_;omega,by show (nmK i).length<=_;omega,by show (nmN (!i)).length<=_;omega,by show (nmK (!i)).length<=_;omega,Nat.zero_le _,Nat.zero_le _,Nat.zero_le _,Nat.zero_le _,Nat.zero_le _,Nat.zero_le _,Nat.zero_le _,by show (0:Int)<=_;decide,by show (0:Int)<=_;decide,Int.le_trans hm (by decide),by show (0:Int)<=_/\(0:Int)<=_;decide⟩
theorem sndX_b (i b:Bool)(k t a lt:Int):TxB (sndX i b k t a lt):=by
 have n1:=nm_len i
 refine⟨Nat.zero_le _,Nat.zero_le _,Nat.zero_le _,Nat.zero_le _,Nat.zero_le _,Nat.zero_le _,by show (nmH i).length<=_;omega,Nat.zero_le _,?_,?_,?_,by show (0:Int)<=_;decide,by show (0:Int)<=_;decide,by show (0:Int)<=_;decide,by show (0:Int)<=_/\(0:Int)<=_;decide⟩
 ·show (if b=true then nmH i++[47,120] else [120]:Bs).length<=_
  split
  ·rw [lla]
   simp
   omega
  ·decide
 ·show (if b=true then [99,97,116] else [97,110,110]:Bs).length<=_
  split <;> decide
 ·show (if b=true then [100,97,110] else [99,97,116]:Bs).length<=_
  split <;> decide
theorem pkt_b {x:TxX}{p:Pkt}{a:Bs}{f:Prf}{g:Gp}(h:TxB x)(hp:PkB p)(ha:a.length<=400000000)(hf:f.m<=2000)(hg:g.a.m<=2000/\g.b.m<=2000):TxB { x with x:=p,a:=a,f:=f,g:=g }:=
 ⟨h.i,h.o,h.p,h.q,h.y,ha,hp.s,hp.k,hp.d,hp.f,hp.g,h.hh,h.ht,Int.le_trans hf (by decide),Int.le_trans hg.1 (by decide),Int.le_trans hg.2 (by decide)⟩
theorem zg_b:zeroG.a.m<=2000/\zeroG.b.m<=2000:=by decide
theorem zp_b:zeroP.m<=2000:=by decide
theorem recX_b {M N:Nat}{x y:SideX}(hx:SOk M x)(h:SOk N y)(n k l:Int):TxB (recX x n k (pastX y l)):=by
 unfold recX
 split
 ·exact txK_b _ _
 ·exact pkt_b (txK_b 14 k) (atPk_b hx.s n) (Nat.zero_le _) (memK_b (pastX_ok h l)) zg_b
theorem ackX_b {M N:Nat}{x y:SideX}(hx:SOk M x)(h:SOk N y)(n k l:Int):TxB (ackX x y n k (pastX y l)):=by
 unfold ackX
 split
 ·exact txK_b _ _
 ·exact pkt_b (txK_b 15 k) (atPk_b hx.s n) (ackTo_b h.a _ _) (memK_b (pastX_ok h l)) zg_b
theorem timX_b {M N:Nat}{x y:SideX}(hx:SOk M x)(h:SOk N y)(n k l:Int):TxB (timX x n k (pastX y l)):=by
 unfold timX
 split
 ·exact txK_b _ _
 ·exact pkt_b (txK_b 16 k) (atPk_b hx.s n) (Nat.zero_le _) zp_b (absK_b (pastX_ok h l))
theorem txN_b {M N:Nat}{x y:SideX}(hx:SOk M x)(hy:SOk N y)(hN:N<=1000)(i:Bool)(n:Int)(s:StpX):TxB (txN i x y n s):=by
 have n1:=nm_len i
 have n2:=nm_len (!i)
 have hh:=hdrX_b hy hN
 unfold txN
 repeat' split
 ·have h:=txK_b 4 (knX x i)
  exact⟨by show (nmK i).length<=_;omega,h.o,h.p,h.q,h.y,h.a,h.s,h.k,h.d,h.f,h.g,hh.1,hh.2,h.fm,h.gm⟩
 ·have h:=txK_b 5 (knX x i)
  exact⟨by show (nmN i).length<=_;omega,by show (nmK i).length<=_;omega,h.p,by show (nmK (!i)).length<=_;omega,h.y,h.a,h.s,h.k,h.d,h.f,h.g,h.hh,h.ht,h.fm,h.gm⟩
 ·have h:=txK_b 9 (knX x i)
  exact⟨by show (nmH i).length<=_;omega,by show (nmN i).length<=_;omega,h.p,by show (nmN (!i)).length<=_;omega,h.y,h.a,h.s,h.k,h.d,h.f,h.g,h.hh,h.ht,h.fm,h.gm⟩
 ·exact hanX_b hy _ _ _
 ·exact sndX_b _ _ _ _ _ _
 ·exact sndX_b _ _ _ _ _ _
 ·exact recX_b hy hy _ _ _
 ·exact ackX_b hx hy _ _ _
 ·exact timX_b hx hy _ _ _
 ·have h:=txK_b (1 + s.n % 2) (knX x i)
  exact⟨h.i,h.o,h.p,h.q,h.y,h.a,Nat.zero_le _,Nat.zero_le _,by show 1<=400000000;decide,by show 3<=400000000;decide,by show 3<=400000000;decide,h.hh,h.ht,h.fm,h.gm⟩
 ·exact txK_b _ _
theorem txX_b {M N:Nat}{x y:SideX}(hx:SOk M x)(hy:SOk N y)(hN:N<=1000)(i:Bool)(s:StpX):TxB (txX i x y s):=by
 have h:=txN_b hx hy hN i (s.k % 16) s
 unfold txX spoX
 repeat' split
 all_goals first|exact h|exact⟨h.i,h.o,h.p,h.q,h.y,h.a,h.s,h.k,h.d,h.f,h.g,h.hh,h.ht,h.fm,h.gm⟩|exact⟨h.i,h.o,h.p,h.q,h.y,by show (failB 16).length<=_;decide,h.s,h.k,h.d,h.f,h.g,h.hh,h.ht,h.fm,h.gm⟩|exact⟨h.i,h.o,by show 2<=400000000;decide,h.q,h.y,h.a,h.s,h.k,h.d,h.f,h.g,h.hh,h.ht,h.fm,h.gm⟩

structure RepB (r:Rep):Prop where
 q:r.q<=9223372036854775807
 a:r.a.length<=400000000
theorem repE_b (e:Int):RepB (repE e):=⟨by show (0:Int)<=_;decide,Nat.zero_le _⟩
theorem rep0_b:RepB rep0:=⟨by decide,by decide⟩
theorem failR_b {d:List Ent}{e:Int}:RepB (failR d e).2:=repE_b e
theorem tellR_b {d:List Ent}{r:List Ent × Int}{p:Rep}(h:RepB p):RepB (tellR d r p).2:=by
 unfold tellR
 split
 ·exact h
 ·exact failR_b
theorem putsR_b {d:List Ent}{k v:Bs}:RepB (putsR d k v).2:=tellR_b rep0_b
theorem begR_b {d:List Ent}{x:TxX}{i k:Bs}{b:Bool}{t:Int}:RepB (begR d x i k b t).2:=by
 unfold begR
 repeat' (first|exact failR_b|exact putsR_b|split)
theorem joiR_b {d:List Ent}{x:TxX}{own:EndX}{i k:Bs}{b:Bool}{t:Int}:RepB (joiR d x own i k b t).2:=by
 cases b
 ·rw [joi_f]
  unfold joiQ
  repeat' (first|exact failR_b|exact putsR_b|split)
 ·rw [joi_t]
  unfold joiQ
  repeat' (first|exact failR_b|exact putsR_b|split)
theorem endR_b {d:List Ent}{x:Pkt}{b:Bool}{e:Int}:RepB (endR d x b e).2:=by
 unfold endR
 split
 ·exact failR_b
 split
 ·exact failR_b
 split
 ·exact failR_b
 split
 ·exact failR_b
 ·exact rep0_b
theorem nxR_b (d:List Ent)(i:Bs):nxR d i<=1099511627776:=by
 unfold nxR
 split
 ·rename_i h
  unfold knV
  rw [if_pos h]
  exact riI_most (by decide)
 ·decide
theorem ackR_b (d:List Ent)(x:Pkt):(ackR d x).length<=400000000:=by
 unfold ackR
 split
 ·show 1<=400000000
  decide
 ·show 2<=400000000
  decide
set_option maxHeartbeats 2000000 in
theorem doR_b (d:List Ent)(x:TxX)(h t:Int):RepB (doR d x h t).2:=by
 unfold doR
 split
 ·unfold fundR;split <;> first|exact failR_b|exact tellR_b rep0_b
 split
 ·unfold movR;split <;> first|exact failR_b|exact tellR_b rep0_b
 split
 ·unfold creR
  repeat' (first|exact failR_b|exact putsR_b|split)
 split
 ·unfold updR
  repeat' (first|exact failR_b|exact putsR_b|split)
 split
 ·unfold conR
  repeat' (first|exact failR_b|exact begR_b|split)
 split
 ·unfold codR
  repeat' (first|exact failR_b|exact joiR_b|split)
 split
 ·unfold opnR
  repeat' (first|exact failR_b|exact begR_b|split)
 split
 ·unfold opdR
  repeat' (first|exact failR_b|exact joiR_b|split)
 split
 ·unfold sndR
  have hn:=nxR_b d x.x.s
  have hg:RepB ⟨0,(goes d x.x).q,[]⟩:=⟨Int.le_trans (show (goes d x.x).q<=_ from hn) (by decide),Nat.zero_le _⟩
  repeat' (first|exact failR_b|exact tellR_b hg|split)
 split
 ·unfold rcvR
  have hg:RepB ⟨0,0,ackR d x.x⟩:=⟨by show (0:Int)<=_;decide,ackR_b _ _⟩
  repeat' (first|exact failR_b|exact tellR_b hg|split)
 split
 ·unfold acksR
  repeat' (first|exact failR_b|exact endR_b|split)
 split
 ·unfold timR
  repeat' (first|exact failR_b|exact endR_b|split)
 ·exact failR_b
theorem SOk.mono {M N:Nat}{x:SideX}(h:SOk M x)(hn:M<=N):SOk N x:=
 ⟨h.n,h.d,h.h,h.h1,by have:=h.hN;omega,by have:=h.t;omega,h.p,h.tl,fun t ht=>by have:=h.ts t ht;omega,h.s,by have:=h.sl;omega,h.g,by have:=h.gl;omega,h.a,h.al⟩
theorem cutX_ok {N:Nat}{x:SideX}(h:SOk N x){t:Int}(ht:t<=x.t + 3):SOk (N + 1) (cutX x t):=by
 have h0:=h.t
 have hm:0<=max x.t t/\max x.t t<=1 + 3 * ((N + 1:Nat):Int):=by omega
 refine⟨h.n,h.d,?_,?_,?_,hm,?_,?_,?_,h.s,?_,h.g,?_,h.a,h.al⟩
 ·show x.h + 1=((x.p++[x.d]).length:Int)
  rw [lla,List.length_singleton,h.h]
  rfl
 ·show 1<=(x.p++[x.d]).length
  rw [lla]
  exact Nat.le_add_left _ _
 ·show (x.p++[x.d]).length<=_
  rw [lla,List.length_singleton]
  have:=h.hN
  omega
 ·intro q hq
  rcases List.mem_append.1 hq with hq|hq
  ·exact h.p q hq
  ·rw [List.mem_singleton.1 hq]
   exact h.d
 ·show (x.ts++[_]).length=(x.p++[_]).length
  rw [lla,lla,h.tl]
  rfl
 ·intro u hu
  rcases List.mem_append.1 hu with hu|hu
  ·have:=h.ts u hu
   omega
  ·rw [List.mem_singleton.1 hu]
   exact hm
 ·have:=h.sl
  show x.s.length<=_
  omega
 ·have:=h.gl
  show x.g.length<=_
  omega
theorem pkt_sb {x:Pkt}(h:PkB x){d:List Ent}{r:Rep}(hr:RepB r):PkB (sentX d x r):=by
 have hl:=(red_len (valE d (kyO [72] x.s))).2.2.1
 exact⟨h.s,by show (enR d [72] x.s).p.length<=_;unfold enR;omega,h.d,h.f,h.g,hr.q,h.h,h.t⟩
theorem aftX_ok {N:Nat}{x:SideX}(h:SOk N x){t:Int}{z:TxX}{d:List Ent}{r:Rep}(hz:PkB z.x)(hd:DOk d)(hr:RepB r):SOk (N + 1) (aftX x t z d r):=by
 have hm:=h.mono (Nat.le_succ N)
 unfold aftX
 split
 ·exact cutX_ok h (by omega)
 split
 ·exact hm
 split
 ·refine⟨h.n,hd,hm.h,hm.h1,hm.hN,hm.t,hm.p,hm.tl,hm.ts,?_,?_,hm.g,hm.gl,hm.a,hm.al⟩
  ·intro p hp
   rcases List.mem_append.1 hp with hp|hp
   ·exact h.s p hp
   ·rw [List.mem_singleton.1 hp]
    exact pkt_sb hz hr
  ·show (x.s++[_]).length<=_
   rw [lla,List.length_singleton]
   have:=h.sl
   omega
 split
 ·refine⟨h.n,hd,hm.h,hm.h1,hm.hN,hm.t,hm.p,hm.tl,hm.ts,hm.s,hm.sl,?_,?_,?_,?_⟩
  ·intro p hp
   rcases List.mem_append.1 hp with hp|hp
   ·exact h.g p hp
   ·rw [List.mem_singleton.1 hp]
    exact hz
  ·show (x.g++[_]).length<=_
   rw [lla,List.length_singleton]
   have:=h.gl
   omega
  ·intro a ha
   rcases List.mem_append.1 ha with ha|ha
   ·exact h.a a ha
   ·rw [List.mem_singleton.1 ha]
    exact hr.a
  ·show (x.a++[_]).length=(x.g++[_]).length
   rw [lla,lla,h.al]
   rfl
 ·exact⟨h.n,hd,hm.h,hm.h1,hm.hN,hm.t,hm.p,hm.tl,hm.ts,hm.s,hm.sl,hm.g,hm.gl,hm.a,hm.al⟩
theorem hanX_pk (i:Bool)(n k:Int)(past:List Ent):PkB (hanX i n k past).x:=by
 unfold hanX
 split <;> exact zeroPk_b
theorem txN_pk {M N:Nat}{x y:SideX}(hx:SOk M x)(hy:SOk N y)(hN:N<=1000)(i:Bool)(n:Int)(s:StpX):PkB (txN i x y n s).x:=by
 have n1:=nm_len i
 have hk:=knX_rng x i
 have ht:=hy.t
 have hs:∀ (b:Bool) (a:Int),PkB (sndX i b (knX x i) s.t a y.t).x:=fun b a=>by
  have hb:=sndX_b i b (knX x i) s.t a y.t
  refine⟨hb.s,hb.k,hb.d,hb.f,hb.g,by show (0:Int)<=_;decide,?_,?_⟩
  ·show knX x i + 2 + s.t % 4<=_
   omega
  ·show (if b=true then y.t + 1 + s.t % 8 else 0)<=_
   split <;> omega
 unfold txN
 repeat' split
 ·exact zeroPk_b
 ·exact zeroPk_b
 ·exact zeroPk_b
 ·exact hanX_pk _ _ _ _
 ·exact hs _ _
 ·exact hs _ _
 ·unfold recX
  split
  ·exact zeroPk_b
  ·exact atPk_b hy.s _
 ·unfold ackX
  split
  ·exact zeroPk_b
  ·exact atPk_b hx.s _
 ·unfold timX
  split
  ·exact zeroPk_b
  ·exact atPk_b hx.s _
 ·exact⟨Nat.zero_le _,Nat.zero_le _,by show 1<=400000000;decide,by show 3<=400000000;decide,by show 3<=400000000;decide,by show (0:Int)<=_;decide,by show (0:Int)<=_;decide,by show (0:Int)<=_;decide⟩
 ·exact zeroPk_b
theorem txX_pk {M N:Nat}{x y:SideX}(hx:SOk M x)(hy:SOk N y)(hN:N<=1000)(i:Bool)(s:StpX):PkB (txX i x y s).x:=by
 have h:=txN_pk hx hy hN i (s.k % 16) s
 unfold txX spoX
 repeat' split
 all_goals first|exact h|exact⟨h.s,h.k,h.d,h.f,h.g,h.q,h.h,h.t⟩
theorem minD_ok:DOk minD:=mintR_dok (mintR_dok .nil)
theorem cut1_ok (i:Bool):SOk 0 (cutS i):=by
 refine⟨by cases i <;> rfl,minD_ok,rfl,Nat.le_refl _,Nat.le_refl _,(by show (0:Int)<=1/\(1:Int)<=1 + 3 * ((0:Nat):Int);decide),?_,rfl,?_,(fun _ h=>by cases h),Nat.le_refl _,(fun _ h=>by cases h),Nat.le_refl _,(fun _ h=>by cases h),rfl⟩
 ·intro q hq
  rw [List.mem_singleton.1 hq]
  exact minD_ok
 ·intro t ht
  rw [List.mem_singleton.1 ht]
  show (0:Int)<=1/\(1:Int)<=1 + 3 * ((0:Nat):Int)
  decide
theorem putX_ok {N:Nat}{x:SideX}(h:SOk N x)(k v:Bs):SOk N (putX x k v):=by
 unfold putX
 split
 ·exact⟨h.n,putR_dok h.d,h.h,h.h1,h.hN,h.t,h.p,h.tl,h.ts,h.s,h.sl,h.g,h.gl,h.a,h.al⟩
 ·exact h
theorem freS_ok (i:Bool):SOk 0 (freS i):=putX_ok (cut1_ok i) _ _
theorem opeS_ok (i:Bool):SOk 0 (opeS i):=putX_ok (putX_ok (freS_ok i) _ _) _ _
end Go.Proofs.YtlmcongmglfaeaaGreatDoor
