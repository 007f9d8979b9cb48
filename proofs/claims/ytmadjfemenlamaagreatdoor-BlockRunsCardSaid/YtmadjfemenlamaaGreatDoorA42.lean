/- the document's block, walked; rows of replies and events that are equal are told to be so -/
import Derived.Test.YtmadjfemenlamaaGreatDoorA16
import Derived.Test.YtmadjfemenlamaaGreatDoorA23
import Derived.Test.YtmadjfemenlamaaGreatDoorA31
import Derived.Test.YtmadjfemenlamaaGreatDoorA40
import Derived.Test.YtmadjfemenlamaaGreatDoorA41
namespace Go.Proofs.YtmadjfemenlamaaGreatDoor
open Go Go.RowKit Tw Av
instance fnR18Hash {x:Bs}:Ans Tryz.prog GL 59 [str x] True (.tup [hA (hOf x),boo (decide (x.length=32))]):=⟨fun _=>by
 refine spec_enter Tryz.func59 rfl Tryz.ntmps59 rfl (fun _ hs=>?_)
 repeat' first|refine Yz ?_|intro _
 by_cases hx:x.length=32
 rotate_left
 ·rw [decide_eq_false hx]
  repeat' first|refine Yz ?_|intro _
  refine reE ?_
  unfold hOf
  rw [dif_neg hx]
  rfl
 rw [decide_eq_true hx]
 repeat' first|refine Yz ?_|intro _
 rename_i g1 g2
 refine ac_loop (α:=Nat) (fun i=>[(0,str x),(2,ptr g1),(3,.lit (.bool false)),(4,ptr g2),(5,int i)]) (fun i=>[.var g2 49 (.agg 32 ((layB x i).map u8A)),.var g1 49 (hA zeroH)]) (fun i=>i≤32) (fun i=>32 - i) 0 ⟨rfl,rfl,rfl,rfl,rfl,trivial⟩ ?_ (Nat.zero_le _) ?_
 focus
  exact sbl
 intro i hi
 repeat' first|refine Yz ?_|intro _
 refine ac_cond (fun hlt=>?_) (fun hlt=>?_)
 ·have hil:i < 32:=by omega
  have hix:i < x.length:=by omega
  repeat' first|refine Yz ?_|intro _
  refine al_idxS i ?_ (List.getElem?_eq_getElem hix)
  repeat' first|refine Yz ?_|intro _
  refine al_idxA i ?_
  refine al_storeE (j:=i) (ps:=(layB x i).map u8A) (by simp only [List.length_map];rw [layB_len hx hi];exact hil) ?_
  repeat' first|refine Yz ?_|intro _
  rw [show ((layB x i).map u8A).set i (u8A x[i])=((layB x i).set i x[i]).map u8A by rw [List.map_set],layB_next hx hil]
  exact ae_round (i + 1) ⟨rfl,rfl,rfl,rfl,rfl,trivial⟩ (List.Sublist.refl _) hil (by omega)
 ·obtain rfl:i=32:=by omega
  have hA1:AV.agg 32 ((layB x 32).map u8A)=hA (hOf x):=by rw [layB_all hx,hA,hOf_l hx]
  rw [hA1]
  repeat' first|refine Yz ?_|intro _
  refine reE ?_
  rfl⟩
instance fnRWFromS {c m:Int}{σ:RS}:Ans Tryz.prog GL 60 [str (gT c m σ)] True (.tup [widA (wV (gT c m σ)),int (if (gT c m σ).length=32 then 0 else 10)]):=⟨fun _=>fnRWFrom.spec (gT_len _ _ _)⟩
instance fnRPReadS {c m:Int}{σ:RS}:Ans Tryz.prog GL 61 [str (gT c m σ)] True (.tup [prfA (rpdV (gT c m σ)),int (rpdE (gT c m σ))]):=⟨fun _=>fnRPRead.spec (gT_len _ _ _)⟩
instance fnRReadGapS {c m:Int}{σ:RS}:Ans Tryz.prog GL 62 [str (gT c m σ)] True (.tup [gpA (rgdV (gT c m σ)),int (rgdE (gT c m σ))]):=⟨fun _=>fnRReadGap.spec (gT_len _ _ _)⟩
instance rS1 {g:Nat}{σ:RS}:AnsM Tryz.prog GL 57 g [.lit (.int .u8 75),int 16] 132 (rdS σ) True (int (gI 75 16 σ)) (rdS (xs1 σ)):=⟨fun _=>(rrIntS (c:=75) (most:=16)).spec (by decide)⟩
instance rS2 {g:Nat}{σ:RS}:AnsM Tryz.prog GL 58 g [.lit (.int .u8 73),int 4000] 132 (rdS (xs1 σ)) True (str (gT 73 4000 (xs1 σ))) (rdS (xs2 σ)):=⟨fun _=>(rrTextS (c:=73) (most:=4000)).spec True.intro⟩
instance rS3 {g:Nat}{σ:RS}:AnsM Tryz.prog GL 58 g [.lit (.int .u8 79),int 4000] 132 (rdS (xs2 σ)) True (str (gT 79 4000 (xs2 σ))) (rdS (xs3 σ)):=⟨fun _=>(rrTextS (c:=79) (most:=4000)).spec True.intro⟩
instance rS4 {g:Nat}{σ:RS}:AnsM Tryz.prog GL 58 g [.lit (.int .u8 81),int 4000] 132 (rdS (xs3 σ)) True (str (gT 81 4000 (xs3 σ))) (rdS (xs4 σ)):=⟨fun _=>(rrTextS (c:=81) (most:=4000)).spec True.intro⟩
instance rS5 {g:Nat}{σ:RS}:AnsM Tryz.prog GL 58 g [.lit (.int .u8 82),int 4000] 132 (rdS (xs4 σ)) True (str (gT 82 4000 (xs4 σ))) (rdS (xs5 σ)):=⟨fun _=>(rrTextS (c:=82) (most:=4000)).spec True.intro⟩
instance rS6 {g:Nat}{σ:RS}:AnsM Tryz.prog GL 58 g [.lit (.int .u8 89),int 4000] 132 (rdS (xs5 σ)) True (str (gT 89 4000 (xs5 σ))) (rdS (xs6 σ)):=⟨fun _=>(rrTextS (c:=89) (most:=4000)).spec True.intro⟩
instance rS7 {g:Nat}{σ:RS}:AnsM Tryz.prog GL 57 g [.lit (.int .u8 69),int 1099511627776] 132 (rdS (xs6 σ)) True (int (gI 69 1099511627776 (xs6 σ))) (rdS (xs7 σ)):=⟨fun _=>(rrIntS (c:=69) (most:=1099511627776)).spec (by decide)⟩
instance rS8 {g:Nat}{σ:RS}:AnsM Tryz.prog GL 58 g [.lit (.int .u8 99),int 4000] 132 (rdS (xs7 σ)) True (str (gT 99 4000 (xs7 σ))) (rdS (xs8 σ)):=⟨fun _=>(rrTextS (c:=99) (most:=4000)).spec True.intro⟩
instance rS9 {g:Nat}{σ:RS}:AnsM Tryz.prog GL 57 g [.lit (.int .u8 104),int 1099511627776] 132 (rdS (xs8 σ)) True (int (gI 104 1099511627776 (xs8 σ))) (rdS (xs9 σ)):=⟨fun _=>(rrIntS (c:=104) (most:=1099511627776)).spec (by decide)⟩
instance rS10 {g:Nat}{σ:RS}:AnsM Tryz.prog GL 57 g [.lit (.int .u8 116),int 1099511627776] 132 (rdS (xs9 σ)) True (int (gI 116 1099511627776 (xs9 σ))) (rdS (xs10 σ)):=⟨fun _=>(rrIntS (c:=116) (most:=1099511627776)).spec (by decide)⟩
instance rS11 {g:Nat}{σ:RS}:AnsM Tryz.prog GL 58 g [.lit (.int .u8 114),int 32] 132 (rdS (xs10 σ)) True (str (gT 114 32 (xs10 σ))) (rdS (xs11 σ)):=⟨fun _=>(rrTextS (c:=114) (most:=32)).spec True.intro⟩
instance rS12 {g:Nat}{σ:RS}:AnsM Tryz.prog GL 58 g [.lit (.int .u8 77),int 32] 132 (rdS (xs11 σ)) True (str (gT 77 32 (xs11 σ))) (rdS (xs12 σ)):=⟨fun _=>(rrTextS (c:=77) (most:=32)).spec True.intro⟩
instance rS13 {g:Nat}{σ:RS}:AnsM Tryz.prog GL 57 g [.lit (.int .u8 113),int 1099511627776] 132 (rdS (xs12 σ)) True (int (gI 113 1099511627776 (xs12 σ))) (rdS (xs13 σ)):=⟨fun _=>(rrIntS (c:=113) (most:=1099511627776)).spec (by decide)⟩
instance rS14 {g:Nat}{σ:RS}:AnsM Tryz.prog GL 58 g [.lit (.int .u8 115),int 4000] 132 (rdS (xs13 σ)) True (str (gT 115 4000 (xs13 σ))) (rdS (xs14 σ)):=⟨fun _=>(rrTextS (c:=115) (most:=4000)).spec True.intro⟩
instance rS15 {g:Nat}{σ:RS}:AnsM Tryz.prog GL 58 g [.lit (.int .u8 107),int 4000] 132 (rdS (xs14 σ)) True (str (gT 107 4000 (xs14 σ))) (rdS (xs15 σ)):=⟨fun _=>(rrTextS (c:=107) (most:=4000)).spec True.intro⟩
instance rS16 {g:Nat}{σ:RS}:AnsM Tryz.prog GL 58 g [.lit (.int .u8 100),int 4000] 132 (rdS (xs15 σ)) True (str (gT 100 4000 (xs15 σ))) (rdS (xs16 σ)):=⟨fun _=>(rrTextS (c:=100) (most:=4000)).spec True.intro⟩
instance rS17 {g:Nat}{σ:RS}:AnsM Tryz.prog GL 58 g [.lit (.int .u8 97),int 32] 132 (rdS (xs16 σ)) True (str (gT 97 32 (xs16 σ))) (rdS (xs17 σ)):=⟨fun _=>(rrTextS (c:=97) (most:=32)).spec True.intro⟩
instance rS18 {g:Nat}{σ:RS}:AnsM Tryz.prog GL 58 g [.lit (.int .u8 102),int 4000] 132 (rdS (xs17 σ)) True (str (gT 102 4000 (xs17 σ))) (rdS (xs18 σ)):=⟨fun _=>(rrTextS (c:=102) (most:=4000)).spec True.intro⟩
instance rS19 {g:Nat}{σ:RS}:AnsM Tryz.prog GL 58 g [.lit (.int .u8 103),int 4000] 132 (rdS (xs18 σ)) True (str (gT 103 4000 (xs18 σ))) (rdS (xs19 σ)):=⟨fun _=>(rrTextS (c:=103) (most:=4000)).spec True.intro⟩
instance rS20 {g:Nat}{σ:RS}:AnsM Tryz.prog GL 57 g [.lit (.int .u8 117),int 1099511627776] 132 (rdS (xs19 σ)) True (int (gI 117 1099511627776 (xs19 σ))) (rdS (xs20 σ)):=⟨fun _=>(rrIntS (c:=117) (most:=1099511627776)).spec (by decide)⟩
instance rS21 {g:Nat}{σ:RS}:AnsM Tryz.prog GL 57 g [.lit (.int .u8 118),int 1099511627776] 132 (rdS (xs20 σ)) True (int (gI 118 1099511627776 (xs20 σ))) (rdS (xs21 σ)):=⟨fun _=>(rrIntS (c:=118) (most:=1099511627776)).spec (by decide)⟩
instance rS22 {g:Nat}{σ:RS}:AnsM Tryz.prog GL 58 g [.lit (.int .u8 65),int 4000] 132 (rdS (xs21 σ)) True (str (gT 65 4000 (xs21 σ))) (rdS (xs22 σ)):=⟨fun _=>(rrTextS (c:=65) (most:=4000)).spec True.intro⟩
instance rS23 {g:Nat}{σ:RS}:AnsM Tryz.prog GL 57 g [.lit (.int .u8 84),int 1099511627776] 132 (rdS (xs22 σ)) True (int (gI 84 1099511627776 (xs22 σ))) (rdS (xs23 σ)):=⟨fun _=>(rrIntS (c:=84) (most:=1099511627776)).spec (by decide)⟩
instance rS24 {g:Nat}{σ:RS}:AnsM Tryz.prog GL 58 g [.lit (.int .u8 70),int 4000] 132 (rdS (xs23 σ)) True (str (gT 70 4000 (xs23 σ))) (rdS (xs24 σ)):=⟨fun _=>(rrTextS (c:=70) (most:=4000)).spec True.intro⟩
instance rS25 {g:Nat}{σ:RS}:AnsM Tryz.prog GL 58 g [.lit (.int .u8 71),int 4000] 132 (rdS (xs24 σ)) True (str (gT 71 4000 (xs24 σ))) (rdS (xs25 σ)):=⟨fun _=>(rrTextS (c:=71) (most:=4000)).spec True.intro⟩
instance rS1' {g:Nat}{s:Bs}:AnsM Tryz.prog GL 57 g [.lit (.int .u8 75),int 16] 132 (rdA s false) (s.length≤1000000000) (int (gI 75 16 (xs0 s))) (rdS (xs1 (xs0 s))):=⟨fun hl=>by
 have h:=(rS1 (g:=g) (σ:=xs0 s)).spec True.intro
 rw [← xs0_eq hl] at h
 exact h⟩
theorem txOk_no {σ:RS}(h:gZ (xs25 σ)≠0∨(gT 114 32 (xs10 σ)).length≠32∨(gT 77 32 (xs11 σ)).length≠32∨(gT 97 32 (xs16 σ)).length≠32∨rpdE (gT 70 4000 (xs23 σ))≠0∨rgdE (gT 71 4000 (xs24 σ))≠0):rtxV σ=zeroX∧rtxE σ=10:=by
 have hk:txOk σ=false:=by
  cases e:txOk σ
  ·rfl
  ·exfalso
   unfold txOk xRoot xMac xAmt xPrf xGap at e
   simp only [Bool.and_eq_true,decide_eq_true_eq] at e
   obtain⟨e1,e2,e3,e4,e5,e6⟩:=e
   rcases h with h|h|h|h|h|h
   ·exact h e6
   ·exact h e1
   ·exact h e2
   ·exact h e3
   ·exact h e4
   ·exact h e5
 unfold rtxV rtxE
 rw [hk]
 exact⟨rfl,rfl⟩
theorem txOk_yes {σ:RS}(h6:gZ (xs25 σ)=0)(h1:(gT 114 32 (xs10 σ)).length=32)(h2:(gT 77 32 (xs11 σ)).length=32)(h3:(gT 97 32 (xs16 σ)).length=32)(h4:rpdE (gT 70 4000 (xs23 σ))=0)(h5:rgdE (gT 71 4000 (xs24 σ))=0):rtxV σ=txV σ∧rtxE σ=0:=by
 have hk:txOk σ=true:=by
  unfold txOk xRoot xMac xAmt xPrf xGap
  rw [decide_eq_true h1,decide_eq_true h2,decide_eq_true h3,decide_eq_true h4,decide_eq_true h5,decide_eq_true h6]
  rfl
 unfold rtxV rtxE
 rw [hk]
 exact⟨rfl,rfl⟩
attribute [local irreducible] wV gT gI gZ sT sI hOf rpdV rgdV rpdE rgdE rdS xs1 xs2 xs3 xs4 xs5 xs6 xs7 xs8 xs9 xs10 xs11 xs12 xs13 xs14 xs15 xs16 xs17 xs18 xs19 xs20 xs21 xs22 xs23 xs24 xs25
set_option maxRecDepth 100000 in
set_option maxHeartbeats 40000000 in
instance fnR18Read {s:Bs}:Ans Tryz.prog GL 25 [str s] (s.length≤1000000000) (.tup [txA (rtxV (xs0 s)),int (rtxE (xs0 s))]):=⟨fun hl=>by
 refine spec_enter Tryz.func25 rfl Tryz.ntmps25 rfl (fun _ hs=>?_)
 iterate 24 ((iterate 20 (try first|refine Xa ?_|refine ob2 (fun _=>?_)|intro _));try simp only [List.set])
 generalize xs0 s=σ
 by_cases h6:gZ (xs25 σ)=0
 rotate_left
 ·rw [(txOk_no (.inl h6)).1,(txOk_no (.inl h6)).2]
  repeat' (first|refine Xa ?_|refine ob2 (fun _=>?_)|intro _|simp only [List.set]|fail)
  (refine reIKm (.tup [txA zeroX,int 10]) [] ?_ ⟨rfl,rfl⟩ (List.nil_sublist _);exact zeroX_imp)
 by_cases h1:(gT 114 32 (xs10 σ)).length=32
 rotate_left
 ·rw [(txOk_no (.inr (.inl h1))).1,(txOk_no (.inr (.inl h1))).2]
  repeat' (first|refine Xa ?_|refine ob2 (fun _=>?_)|intro _|simp only [List.set]|fail)
  (refine reIKm (.tup [txA zeroX,int 10]) [] ?_ ⟨rfl,rfl⟩ (List.nil_sublist _);exact zeroX_imp)
 by_cases h2:(gT 77 32 (xs11 σ)).length=32
 rotate_left
 ·rw [(txOk_no (.inr (.inr (.inl h2)))).1,(txOk_no (.inr (.inr (.inl h2)))).2]
  repeat' (first|refine Xa ?_|refine ob2 (fun _=>?_)|intro _|simp only [List.set]|fail)
  (refine reIKm (.tup [txA zeroX,int 10]) [] ?_ ⟨rfl,rfl⟩ (List.nil_sublist _);exact zeroX_imp)
 by_cases h3:(gT 97 32 (xs16 σ)).length=32
 rotate_left
 ·rw [(txOk_no (.inr (.inr (.inr (.inl h3))))).1,(txOk_no (.inr (.inr (.inr (.inl h3))))).2]
  repeat' (first|refine Xa ?_|refine ob2 (fun _=>?_)|intro _|simp only [List.set]|fail)
  (refine reIKm (.tup [txA zeroX,int 10]) [] ?_ ⟨rfl,rfl⟩ (List.nil_sublist _);exact zeroX_imp)
 by_cases h4:rpdE (gT 70 4000 (xs23 σ))=0
 rotate_left
 ·rw [(txOk_no (.inr (.inr (.inr (.inr (.inl h4)))))).1,(txOk_no (.inr (.inr (.inr (.inr (.inl h4)))))).2]
  repeat' (first|refine Xa ?_|refine ob2 (fun _=>?_)|intro _|simp only [List.set]|fail)
  (refine reIKm (.tup [txA zeroX,int 10]) [] ?_ ⟨rfl,rfl⟩ (List.nil_sublist _);exact zeroX_imp)
 by_cases h5:rgdE (gT 71 4000 (xs24 σ))=0
 rotate_left
 ·rw [(txOk_no (.inr (.inr (.inr (.inr (.inr h5)))))).1,(txOk_no (.inr (.inr (.inr (.inr (.inr h5)))))).2]
  repeat' (first|refine Xa ?_|refine ob2 (fun _=>?_)|intro _|simp only [List.set]|fail)
  (refine reIKm (.tup [txA zeroX,int 10]) [] ?_ ⟨rfl,rfl⟩ (List.nil_sublist _);exact zeroX_imp)
 rw [(txOk_yes h6 h1 h2 h3 h4 h5).1,(txOk_yes h6 h1 h2 h3 h4 h5).2]
 repeat' (first|refine Xa ?_|refine ob2 (fun _=>?_)|intro _|simp only [List.set]|fail)
 refine reE ?_
 rfl⟩
end Go.Proofs.YtmadjfemenlamaaGreatDoor

namespace Go.Proofs.YtmadjfemenlamaaGreatDoor
open Go Go.RowKit Tw Av
abbrev qA (o:Out18):AV:=.agg 4 [dSl o.1,repA o.2]
def fQ (e:Int):Out18:=([],repE e)
def pQ (d:List Ent)(k v:Bs):Out18:=if (putR d k v).2=0 then ((putR d k v).1,rep0) else fQ (putR d k v).2
def finQ (d:List Ent)(q:Out18):Out18:=if q.2.e=0 then q else failR d q.2.e
theorem fin_f {d:List Ent}{e:Int}(h:e≠0):finQ d (fQ e)=failR d e:=by
 unfold finQ fQ repE
 rw [if_neg h]
theorem fin_p {d:List Ent}{k v:Bs}:finQ d (pQ d k v)=putsR d k v:=by
 unfold pQ putsR tellR
 split
 ·rfl
 ·rename_i h
  exact fin_f h
theorem fin_t {d:List Ent}{r:List Ent × Int}:finQ d (r.1,repE r.2)=tellR d r rep0:=by
 unfold finQ tellR repE
 dsimp only
 split
 ·rename_i h
  rw [h]
  rfl
 ·rfl
def coinQ (d:List Ent)(x:TxX):Out18:=if denB x.x.d=false∨plainB x.x.g=false∨(x.k=1∧0 < hopN x.x.d)∨(x.k=2∧plainB x.x.f=false) then fQ 1 else if x.k=1 then ((mintR d x.x.g x.x.d x.x.a).1,repE (mintR d x.x.g x.x.d x.x.a).2) else ((moveR d x.x.f x.x.g x.x.d x.x.a).1,repE (moveR d x.x.f x.x.g x.x.d x.x.a).2)
theorem fin_fund {d:List Ent}{x:TxX}(h:x.k=1):finQ d (coinQ d x)=fundR d x.x:=by
 unfold coinQ fundR
 by_cases h1:denB x.x.d=false∨0 < hopN x.x.d∨plainB x.x.g=false
 ·rw [if_pos h1,if_pos (by rcases h1 with h1|h1|h1;exact .inl h1;exact .inr (.inr (.inl ⟨h,h1⟩));exact .inr (.inl h1)),fin_f (by decide)]
 ·rw [if_neg h1,if_neg (fun e=>h1 (by rcases e with e|e|e|e;exact .inl e;exact .inr (.inr e);exact .inr (.inl e.2);exact absurd (h.symm.trans e.1) (by decide))),if_pos h,fin_t]
theorem fin_move {d:List Ent}{x:TxX}(h:x.k=2):finQ d (coinQ d x)=movR d x.x:=by
 have hn:¬ x.k=1:=by rw [h];decide
 unfold coinQ movR
 by_cases h1:denB x.x.d=false∨plainB x.x.f=false∨plainB x.x.g=false
 ·rw [if_pos h1,if_pos (by rcases h1 with h1|h1|h1;exact .inl h1;exact .inr (.inr (.inr ⟨h,h1⟩));exact .inr (.inl h1)),fin_f (by decide)]
 ·rw [if_neg h1,if_neg (fun e=>h1 (by rcases e with e|e|e|e;exact .inl e;exact .inr (.inr e);exact absurd e.1 hn;exact .inr (.inl e.2))),if_neg hn,fin_t]
def cliQ (d:List Ent)(x:TxX)(t:Int):Out18:=
 if x.k=4 then (if clB d x.i=false then fQ 12 else if updE (clR d x.i) x.h x.m t≠0 then fQ (updE (clR d x.i) x.h x.m t) else pQ d (kyO [67] x.i) (cliB (updC (clR d x.i) x.h x.m t)))
 else if partB x.i=false then fQ 1 else if clB d x.i=true then fQ 13 else if newE x.y x.e x.h≠0 then fQ (newE x.y x.e x.h) else pQ d (kyO [67] x.i) (cliB (newR x.y x.e x.h))
theorem fin_upd {d:List Ent}{x:TxX}{t:Int}(h:x.k=4):finQ d (cliQ d x t)=updR d x t:=by
 unfold cliQ updR
 rw [if_pos h]
 split
 ·exact fin_f (by decide)
 ·split
  ·rename_i h1
   exact fin_f h1
  ·exact fin_p
theorem fin_cre {d:List Ent}{x:TxX}{t:Int}(h:x.k=3):finQ d (cliQ d x t)=creR d x:=by
 unfold cliQ creR
 rw [if_neg (by rw [h];decide)]
 split
 ·exact fin_f (by decide)
 ·split
  ·exact fin_f (by decide)
  ·split
   ·rename_i h1
    exact fin_f h1
   ·exact fin_p
def begP (d:List Ent)(x:TxX)(i k:Bs)(try':Bool)(t:Int):Out18:=
 if try'=false then (if (initE x.o x.q).2≠0 then fQ (initE x.o x.q).2 else pQ d (kyO k x.i) (enxB (initE x.o x.q).1))
 else if prE d i x.t t (kyO k x.p) (enxB ⟨1,x.q,x.o,[]⟩) x.f≠0 then fQ (prE d i x.t t (kyO k x.p) (enxB ⟨1,x.q,x.o,[]⟩) x.f)
 else if (tryE x.o x.p ⟨1,x.q,x.o,[]⟩).2≠0 then fQ (tryE x.o x.p ⟨1,x.q,x.o,[]⟩).2
 else pQ d (kyO k x.i) (enxB (tryE x.o x.p ⟨1,x.q,x.o,[]⟩).1)
theorem fin_beg {d:List Ent}{x:TxX}{i k:Bs}{b:Bool}{t:Int}:finQ d (begP d x i k b t)=begR d x i k b t:=by
 unfold begP begR
 split
 ·split
  ·rename_i h1
   exact fin_f h1
  ·exact fin_p
 ·split
  ·rename_i h1
   exact fin_f h1
  ·split
   ·rename_i h1
    exact fin_f h1
   ·exact fin_p
def begK (d:List Ent)(x:TxX)(b:Bool)(t:Int):Out18:=if partB x.i=false then fQ 1 else if enB d [75] x.i=true then fQ 13 else if clB d x.o=false then fQ 12 else begP d x x.o [75] b t
def begH (d:List Ent)(x:TxX)(b:Bool)(t:Int):Out18:=if partB x.i=false then fQ 1 else if enB d [72] x.i=true then fQ 13 else if enB d [75] x.o=false then fQ 12 else if (enR d [75] x.o).s≠3 then fQ 13 else begP d x (enR d [75] x.o).o [72] b t
theorem fin_con {d:List Ent}{x:TxX}{t:Int}:finQ d (begK d x (decide (x.k=6)) t)=conR d x t:=by
 unfold begK conR
 split
 ·exact fin_f (by decide)
 ·split
  ·exact fin_f (by decide)
  ·split
   ·exact fin_f (by decide)
   ·exact fin_beg
theorem fin_opn {d:List Ent}{x:TxX}{t:Int}:finQ d (begH d x (decide (x.k=10)) t)=opnR d x t:=by
 unfold begH opnR
 split
 ·exact fin_f (by decide)
 ·split
  ·exact fin_f (by decide)
  ·split
   ·exact fin_f (by decide)
   ·split
    ·exact fin_f (by decide)
    ·exact fin_beg
def joiP (d:List Ent)(x:TxX)(i k pp:Bs)(th:EndX)(r:EndX × Int)(t:Int):Out18:=if prE d i x.t t (kyO k pp) (enxB th) x.f≠0 then fQ (prE d i x.t t (kyO k pp) (enxB th) x.f) else if r.2≠0 then fQ r.2 else pQ d (kyO k x.i) (enxB r.1)
theorem fin_joi {d:List Ent}{x:TxX}{i k pp:Bs}{th:EndX}{r:EndX × Int}{t:Int}:finQ d (joiP d x i k pp th r t)=joiQ d x i k pp th r t:=by
 unfold joiP joiQ
 split
 ·rename_i h1
  exact fin_f h1
 ·split
  ·rename_i h1
   exact fin_f h1
  ·exact fin_p
def joiO (d:List Ent)(x:TxX)(own:EndX)(i k:Bs)(ack:Bool)(t:Int):Out18:=if ack=true then joiP d x i k x.p ⟨2,own.q,own.o,x.i⟩ (ackE own x.i x.p ⟨2,own.q,own.o,x.i⟩) t else joiP d x i k own.p ⟨3,own.q,own.o,x.i⟩ (cnfE own x.i ⟨3,own.q,own.o,x.i⟩) t
theorem fin_joo {d:List Ent}{x:TxX}{own:EndX}{i k:Bs}{b:Bool}{t:Int}:finQ d (joiO d x own i k b t)=joiR d x own i k b t:=by
 cases b
 ·rw [joi_f]
  exact fin_joi
 ·rw [joi_t]
  exact fin_joi
def opnK (d:List Ent)(x:TxX)(b:Bool)(t:Int):Out18:=if enB d [75] x.i=false then fQ 12 else joiO d x (enR d [75] x.i) (enR d [75] x.i).o [75] b t
def opnH (d:List Ent)(x:TxX)(b:Bool)(t:Int):Out18:=if enB d [72] x.i=false then fQ 12 else if enB d [75] (enR d [72] x.i).o=false then fQ 12 else joiO d x (enR d [72] x.i) (enR d [75] (enR d [72] x.i).o).o [72] b t
theorem fin_cod {d:List Ent}{x:TxX}{t:Int}:finQ d (opnK d x (decide (x.k=7)) t)=codR d x t:=by
 unfold opnK codR
 split
 ·exact fin_f (by decide)
 ·exact fin_joo
theorem fin_opd {d:List Ent}{x:TxX}{t:Int}:finQ d (opnH d x (decide (x.k=11)) t)=opdR d x t:=by
 unfold opnH opdR
 cases h1:enB d [72] x.i
 ·rw [if_pos rfl,if_pos (.inl rfl)]
  exact fin_f (by decide)
 ·rw [if_neg (show ¬ true=false by decide)]
  cases h2:enB d [75] (enR d [72] x.i).o
  ·rw [if_pos rfl,if_pos (.inr rfl)]
   exact fin_f (by decide)
  ·rw [if_neg (show ¬ true=false by decide),if_neg (by simp)]
   exact fin_joo
end Go.Proofs.YtmadjfemenlamaaGreatDoor

namespace Go.Proofs.YtmadjfemenlamaaGreatDoor
open Go Go.RowKit Tw Av
attribute [local irreducible] clB enB
theorem imp_f {e:Int}:Imp (outOf [.agg 4 [.lit (.slice none 0 0),.agg 3 [int e,.lit (.int .i64 0),str []]]]) (qA (fQ e)):=(inferInstance:ImpR (.agg 4 [.lit (.slice none 0 0),.agg 3 [int e,.lit (.int .i64 0),str []]]) (.agg 4 [.sl 2 [] none,.agg 3 [int e,int 0,str []]])).imp
instance fnR18Fails {e:Int}:Ans Tryz.prog GL 117 [int e] True (qA (fQ e)):=⟨fun _=>by
 refine spec_enter Tryz.func117 rfl Tryz.ntmps117 rfl (fun _ hs=>?_)
 repeat' first|refine Zz ?_|intro _
 refine reI ?_
 exact imp_f⟩
instance fnR18Puts {d:List Ent}{k v:Bs}{xs:List AV}{id:Option Value}[hx:Ents xs d]:Ans Tryz.prog GL 189 [.sl 2 xs id,str k,str v] (DOk d) (qA (pQ d k v)):=⟨fun hd=>by
 refine spec_enter Tryz.func189 rfl Tryz.ntmps189 rfl (fun _ hs=>?_)
 repeat' first|refine Zz ?_|intro _
 unfold pQ
 by_cases h:(putR d k v).2=0
 ·rw [if_pos h,decide_eq_false (not_not_intro h)]
  repeat' first|refine Zz ?_|intro _
  refine reE ?_
  rfl
 ·rw [if_neg h,decide_eq_true h]
  repeat' first|refine Zz ?_|intro _
  refine reE ?_
  rfl⟩
set_option maxHeartbeats 2000000 in
instance fnR18Coins {d:List Ent}{x:TxX}{xs:List AV}{id:Option Value}[hx:Ents xs d]:Ans Tryz.prog GL 110 [.sl 2 xs id,txA x] (DOk d∧TxB x) (qA (coinQ d x)):=⟨fun hp=>by
 obtain⟨hd,hb⟩:=hp
 have b1:=hb.d
 have b2:=hb.f
 have b3:=hb.g
 refine spec_enter Tryz.func110 rfl Tryz.ntmps110 rfl (fun _ hs=>?_)
 repeat' first|refine Zz ?_|intro _
 unfold coinQ
 cases h1:denB x.x.d
 ·rw [if_pos (.inl rfl)]
  repeat' first|refine Zz ?_|intro _
  refine reE ?_
  rfl
 cases h2:plainB x.x.g
 ·rw [if_pos (.inr (.inl rfl))]
  repeat' first|refine Zz ?_|intro _
  refine reE ?_
  rfl
 repeat' first|refine Zz ?_|intro _
 by_cases h3:x.k=1
 ·have h3':¬ x.k=2:=by omega
  rw [if_pos h3,decide_eq_true h3]
  repeat' first|refine Zz ?_|intro _
  by_cases h4:0 < hopN x.x.d
  ·rw [if_pos (.inr (.inr (.inl ⟨h3,h4⟩))),decide_eq_true (show (0:Int) < ((hopN x.x.d:Nat):Int) by omega)]
   repeat' first|refine Zz ?_|intro _
   refine reE ?_
   rfl
  ·rw [if_neg (show ¬ (true=false∨true=false∨(x.k=1∧0 < hopN x.x.d)∨(x.k=2∧plainB x.x.f=false)) by simp [h4,h3']),decide_eq_false (show ¬ (0:Int) < ((hopN x.x.d:Nat):Int) by omega)]
   repeat' first|refine Zz ?_|intro _
   rw [decide_eq_false h3']
   repeat' first|refine Zz ?_|intro _
   refine reE ?_
   rfl
 ·rw [if_neg h3,decide_eq_false h3]
  repeat' first|refine Zz ?_|intro _
  by_cases h5:x.k=2
  ·rw [decide_eq_true h5]
   repeat' first|refine Zz ?_|intro _
   cases h6:plainB x.x.f
   ·rw [if_pos (.inr (.inr (.inr ⟨h5,rfl⟩)))]
    repeat' first|refine Zz ?_|intro _
    refine reE ?_
    rfl
   ·rw [if_neg (show ¬ (true=false∨true=false∨(x.k=1∧0 < hopN x.x.d)∨(x.k=2∧true=false)) by simp [h3])]
    repeat' first|refine Zz ?_|intro _
    refine reE ?_
    rfl
  ·rw [if_neg (show ¬ (true=false∨true=false∨(x.k=1∧0 < hopN x.x.d)∨(x.k=2∧plainB x.x.f=false)) by simp [h3,h5]),decide_eq_false h5]
   repeat' first|refine Zz ?_|intro _
   refine reE ?_
   rfl⟩
set_option maxHeartbeats 2000000 in
instance fnR18Clients {d:List Ent}{t:Int}{x:TxX}{xs:List AV}{id:Option Value}[hx:Ents xs d]:Ans Tryz.prog GL 111 [.sl 2 xs id,txA x,int t] (DOk d∧TxB x) (qA (cliQ d x t)):=⟨fun hp=>by
 obtain⟨hd,hb⟩:=hp
 have b1:=hb.i
 have b2:=hb.hh
 have b3:=hb.ht
 have hF:=clF d x.i
 have q1:CliOk (clR d x.i)∧(Rise (clR d x.i).l∧(clR d x.i).l.length≤32)∧x.h.h≤9223372036854775807∧x.h.t≤9223372036854775807:=⟨hF.ok,⟨hF.r,hF.n⟩,b2,b3⟩
 have hw:CliW (newR x.y x.e x.h):=by
  unfold newR
  split
  ·rename_i h
   exact (may_f h).w
  ·exact zero_f.w
 have hw2:CliW (updC (clR d x.i) x.h x.m t):=updC_w hF b2 b3
 refine spec_enter Tryz.func111 rfl Tryz.ntmps111 rfl (fun _ hs=>?_)
 repeat' first|refine Zz ?_|intro _
 unfold cliQ
 by_cases h1:x.k=4
 ·rw [if_pos h1,decide_eq_true h1]
  repeat' first|refine Zz ?_|intro _
  cases h2:clB d x.i
  ·rw [if_pos rfl]
   repeat' first|refine Zz ?_|intro _
   refine reE ?_
   rfl
  rw [if_neg (show ¬ true=false by decide)]
  repeat' first|refine Zz ?_|intro _
  by_cases h3:updE (clR d x.i) x.h x.m t=0
  rotate_left
  ·rw [if_pos h3,decide_eq_true h3]
   repeat' first|refine Zz ?_|intro _
   refine reE ?_
   rfl
  rw [if_neg (not_not_intro h3),decide_eq_false (not_not_intro h3)]
  repeat' first|refine Zz ?_|intro _
  refine reE ?_
  rfl
 rw [if_neg h1,decide_eq_false h1]
 repeat' first|refine Zz ?_|intro _
 cases h2:partB x.i
 ·rw [if_pos rfl]
  repeat' first|refine Zz ?_|intro _
  refine reE ?_
  rfl
 rw [if_neg (show ¬ true=false by decide)]
 repeat' first|refine Zz ?_|intro _
 cases h3:clB d x.i
 rotate_left
 ·rw [if_pos rfl]
  repeat' first|refine Zz ?_|intro _
  refine reE ?_
  rfl
 rw [if_neg (show ¬ false=true by decide)]
 repeat' first|refine Zz ?_|intro _
 by_cases h4:newE x.y x.e x.h=0
 rotate_left
 ·rw [if_pos h4,decide_eq_true h4]
  repeat' first|refine Zz ?_|intro _
  refine reE ?_
  rfl
 rw [if_neg (not_not_intro h4),decide_eq_false (not_not_intro h4)]
 repeat' first|refine Zz ?_|intro _
 refine reE ?_
 rfl⟩
end Go.Proofs.YtmadjfemenlamaaGreatDoor

namespace Go.Proofs.YtmadjfemenlamaaGreatDoor
open Go Go.RowKit Tw Av
attribute [local irreducible] clB enB lateP coinQ cliQ rtxV rtxE xs0 txB specK
set_option maxHeartbeats 4000000 in
instance fnR18do3 {d:List Ent}{h t:Int}{x:TxX}{xs:List AV}{id:Option Value}[hx:Ents xs d]:Ans Tryz.prog GL 64 [.sl 2 xs id,txA x,int h,int t] ((DOk d∧TxB x)∧x.k=3) (qA (cliQ d x t)):=⟨fun hp=>by
 obtain⟨hq,h3⟩:=hp
 refine spec_enter Tryz.func64 rfl Tryz.ntmps64 rfl (fun _ hs=>?_)
 repeat' first|refine Zz ?_|intro _
 refine reE ?_
 rfl⟩
instance fnR18Do3 {d:List Ent}{h t:Int}{x:TxX}{xs:List AV}{id:Option Value}[hx:Ents xs d]:Ans Tryz.prog GL 26 [.sl 2 xs id,txA x,int h,int t] ((DOk d∧TxB x)∧x.k=3) (.tup [dSl (creR d x).1,repA (creR d x).2]):=⟨fun hp=>by
 have h':=hx.out
 subst h'
 refine spec_enter Tryz.func26 rfl Tryz.ntmps26 rfl (fun _ hs=>?_)
 refine ac_as 0 Imp.sl ?_
 repeat' first|refine Zz ?_|intro _
 rw [← fin_cre (t:=t) hp.2]
 unfold finQ
 by_cases h:(cliQ d x t).2.e=0
 ·rw [if_pos h,decide_eq_false (not_not_intro h)]
  repeat' first|refine Zz ?_|intro _
  refine reE ?_
  rfl
 ·rw [if_neg h,decide_eq_true h]
  repeat' first|refine Zz ?_|intro _
  refine reE ?_
  rfl⟩
theorem stD1_ok:DOk stD1:=by
 unfold stD1
 exact creR_dok .nil
theorem imp_bvar {a m:Int}:ImpC (.agg 3 [int a,int m,.lit (.slice none 0 0)]) (.agg 3 [int a,int m,.sl 1 [] (some (.slice none 0 0))]):=fun ok w cs h=>by
 rw [RC] at h ⊢
 refine⟨h.1,?_⟩
 have h:=h.2
 rw [RCs] at h ⊢
 obtain⟨a1,b1,e1,f1,h⟩:=h
 refine⟨a1,b1,e1,f1,?_⟩
 rw [RCs] at h ⊢
 obtain⟨a1,b1,e1,f1,h⟩:=h
 refine⟨a1,b1,e1,f1,?_⟩
 rw [RCs] at h ⊢
 obtain⟨a1,b1,e1,f1,h⟩:=h
 exact⟨a1,b1,e1,ImpC.nilT _ _ _ f1,h⟩
theorem start_ok (o:Bool):DOk (startL o):=by
 cases o
 ·exact .nil
 ·exact putR_dok (putR_dok stD1_ok)
theorem spec30:specB 3 0 []=txB (specK 3 0):=by
 unfold specB
 rw [if_neg (by decide)]
 rfl
theorem spec21:specB 2 1 []=txB (specK 2 1):=by
 unfold specB
 rw [if_neg (by decide)]
 rfl
theorem read30:rtxV (xs0 (txB (specK 3 0)))=specK 3 0:=(spec_back (by decide) (by decide)).1
set_option maxHeartbeats 4000000 in
instance fnStart19 {o:Bool}:Ans Tryz.prog GL 8 [boo o] True (.sl 2 ((startL o).map entA) none):=⟨fun _=>by
 cases o
 ·refine spec_enter Tryz.func8 rfl Tryz.ntmps8 rfl (fun _ hs=>?_)
  repeat' first|refine Zz ?_|intro _
  refine reI ?_
  exact Imp.nilN
 ·have hb:=txB_len (specK 3 0)
  have hp:(DOk ([]:List Ent)∧TxB (specK 3 0))∧(specK 3 0).k=3:=⟨⟨.nil,by rw [← read30];exact rtxV_b _⟩,by unfold specK;rfl⟩
  have h1:=stD1_ok
  have h2:DOk stD2:=putR_dok stD1_ok
  refine spec_enter Tryz.func8 rfl Tryz.ntmps8 rfl (fun _ hs=>?_)
  repeat' first|refine Zz ?_|intro _
  rw [spec30]
  repeat' first|refine Zz ?_|intro _
  rw [read30]
  repeat' first|refine Zz ?_|intro _
  refine al_callI [.sl 2 [] none,txA (specK 3 0),int 1,int 1] (hc:=fnR18Do3 (d:=[]) (xs:=[]) (id:=none) (hx:=⟨rfl⟩)) (hp:=hp) ?_
  repeat' first|refine Zz ?_|intro _
  refine reE ?_
  rfl⟩
instance fnEqE {a:List Ent}{xs ys:List AV}{id id2:Option Value}[hx:Ents xs a][hy:Ents ys a]:Ans Tryz.prog GL 52 [.sl 2 xs id,.sl 2 ys id2] True (boo true):=⟨fun _=>by
 have h:=hx.out
 subst h
 have h:=hy.out
 subst h
 have hma:(a.map entA).length=a.length:=List.length_map _
 refine spec_enter Tryz.func52 rfl Tryz.ntmps52 rfl (fun _ hs=>?_)
 refine ac_bnd 0 (fun hb=>?_)
 have hb:=maxLen_le hb
 repeat' first|refine Zz ?_|intro _
 refine ac_loop (α:=Nat) (fun i=>[(0,.sl 2 (a.map entA) id),(1,.sl 2 (a.map entA) id2),(12,int (a.map entA).length),(13,int i)]) (fun i=>[])
  (fun i=>i≤a.length) (fun i=>a.length - i) 0 ⟨rfl,rfl,rfl,rfl,trivial⟩ (List.Sublist.refl _) (Nat.zero_le _) ?_
 intro i hi
 repeat' first|refine Vz ?_|intro _
 refine ac_cond (fun hlt=>?_) (fun hlt=>?_)
 ·have hia:i < a.length:=by omega
  repeat' first|refine Vz ?_|intro _
  exact ae_round (i + 1) ⟨rfl,rfl,rfl,rfl,trivial⟩ (List.Sublist.refl _) hia (by omega)
 ·repeat' first|refine Vz ?_|intro _
  refine reE ?_
  rfl⟩
instance fnDSame {a:List Ent}{xs ys:List AV}[hx:Ents xs a][hy:Ents ys a]:Ans Tryz.prog GL 22 [.agg 1 [.sl 2 xs none],.agg 1 [.sl 2 ys none]] True (boo true):=⟨fun _=>by
 refine spec_enter Tryz.func22 rfl Tryz.ntmps22 rfl (fun _ hs=>?_)
 repeat' first|refine Zz ?_|intro _
 refine reE ?_
 rfl⟩
def blB (h t:Int)(l:List Bs):Bs:=tlvI 104 h++tlvI 116 t++tlvA 120 l
instance fnBlBytes {h t:Int}{l:List Bs}{xs:List AV}{id:Option Value}[hx:Strs xs l]:Ans Tryz.prog GL 24 [.agg 3 [int h,int t,.sl 1 xs id]] ((h≤9223372036854775807∧t≤9223372036854775807)∧l.length≤8000000) (str (blB h t l)):=⟨fun hp=>by
 obtain⟨⟨h1,h2⟩,h3⟩:=hp
 refine spec_enter Tryz.func24 rfl Tryz.ntmps24 rfl (fun _ hs=>?_)
 repeat' first|refine Zz ?_|intro _
 refine reE ?_
 rfl⟩
def zb1:Bs:=tlvI 116 0++tlvA 120 [[120]]
def zb2:Bs:=tlvA 120 [[120]]
instance zInt0 {g:Nat}:AnsM Tryz.prog GL 43 g [.lit (.int .u8 104),int 1099511627776] 159 (rdA (blB 1 0 [[120]]) false) True (int 1) (rdA zb1 false):=⟨fun _=>by
 have h:=(rdInt (g:=g) (s:=blB 1 0 [[120]]) (b:=false) (c:=104) (most:=1099511627776)).spec ⟨by decide,by decide⟩
 rw [show riI 104 1099511627776 (blB 1 0 [[120]]) false=1 by kernel_rfl,show rsT 104 8 (blB 1 0 [[120]]) false=zb1 by kernel_rfl,show riB 104 1099511627776 (blB 1 0 [[120]]) false=false by kernel_rfl] at h
 exact h⟩
instance zInt1 {g:Nat}:AnsM Tryz.prog GL 43 g [.lit (.int .u8 116),int 1099511627776] 159 (rdA zb1 false) True (int 0) (rdA zb2 false):=⟨fun _=>by
 have h:=(rdInt (g:=g) (s:=zb1) (b:=false) (c:=116) (most:=1099511627776)).spec ⟨by decide,by decide⟩
 rw [show riI 116 1099511627776 zb1 false=0 by kernel_rfl,show rsT 116 8 zb1 false=zb2 by kernel_rfl,show riB 116 1099511627776 zb1 false=false by kernel_rfl] at h
 exact h⟩
instance zAll {g:Nat}:AnsM Tryz.prog GL 53 g [.lit (.int .u8 120),int 16,int 6000] 159 (rdA zb2 false) True (.sl 1 ([[120]].map str) none) (rdA [] false):=⟨fun _=>by
 have h:=(rdAll (g:=g) (s:=zb2) (b:=false) (c:=120) (many:=16) (most:=6000)).spec (by decide)
 rw [show raL 120 16 6000 zb2 false=[[120]] by kernel_rfl,show rsT 120 16777215 zb2 false=[] by kernel_rfl,show raB 120 16 6000 zb2 false=false by kernel_rfl] at h
 exact h⟩
instance fnBlCheck {l:List Bs}{xs:List AV}{id:Option Value}[hx:Strs xs l]:Ans Tryz.prog GL 54 [.agg 3 [int 1,int 0,.sl 1 xs id]] (l.length≤16∧∀ s ∈ l,s.length≤6000) (int 0):=⟨fun hp=>by
 obtain⟨hl,hs6⟩:=hp
 have h:=hx.out
 subst h
 have hm:(l.map str).length=l.length:=List.length_map _
 refine spec_enter Tryz.func54 rfl Tryz.ntmps54 rfl (fun _ hs=>?_)
 repeat' first|refine Zz ?_|intro _
 rename_i g1
 refine ac_loop (α:=Nat) (fun i=>[(2,.lit (.int .i64 0)),(28,.sl 1 (l.map str) id),(29,int (l.map str).length),(30,int i)]) (fun i=>[])
  (fun i=>i≤l.length) (fun i=>l.length - i) 0 ⟨rfl,rfl,rfl,rfl,trivial⟩ (List.nil_sublist _) (Nat.zero_le _) ?_
 intro i hi
 repeat' first|refine Zz ?_|intro _
 refine ac_cond (fun hlt=>?_) (fun hlt=>?_)
 ·have hil:i < l.length:=by omega
  have h6:=hs6 _ (List.getElem_mem hil)
  repeat' first|refine Zz ?_|intro _
  refine ae_round (i + 1) ⟨rfl,rfl,rfl,rfl,trivial⟩ (List.nil_sublist _) hil (by omega)
 ·repeat' first|refine Zz ?_|intro _
  refine reE ?_
  rfl⟩
attribute [local irreducible] blB zb1 zb2
instance fnBlRead1:Ans Tryz.prog GL 23 [str (blB 1 0 [[120]])] True (.tup [.agg 3 [int 1,int 0,.sl 1 ([[120]].map str) none],int 0]):=⟨fun _=>by
 have hq:([[120]]:List Bs).length≤16∧∀ s ∈ ([[120]]:List Bs),s.length≤6000:=⟨by decide,by decide⟩
 refine spec_enter Tryz.func23 rfl Tryz.ntmps23 rfl (fun _ hs=>?_)
 repeat' first|refine Zz ?_|intro _
 refine al_callK (args:=[str (blB 1 0 [[120]])]) [] _ (by rw [hs];exact tlvRead) (fun u m1 hh=>?_) (List.Perm.refl _)
 obtain⟨gr,rfl,rfl⟩:=hh
 repeat' first|refine Zz ?_|intro _
 refine reE ?_
 rfl⟩
set_option maxHeartbeats 4000000 in
theorem fnCoDo2 {d:List Ent}{h t:Int}{x:TxX}:Ans Tryz.prog GL 21 [.agg 1 [.sl 2 (d.map entA) none],txA x,int h,int t] (DOk d∧TxB x∧x.k=2) (.tup [dA (doR d x h t).1,repA (doR d x h t).2]):=⟨fun hp=>by
 obtain⟨hd,hb,h2⟩:=hp
 have hq:DOk d∧TxB x:=⟨hd,hb⟩
 refine spec_enter Tryz.func21 rfl Tryz.ntmps21 rfl (fun _ hs=>?_)
 repeat' first|refine Zz ?_|intro _
 rw [h2,call2,do2 h2]
 repeat' first|refine Zz ?_|intro _
 refine al_fnNF (by kernel_rfl) ?_
 repeat' first|refine Zz ?_|intro _
 refine reE ?_
 rfl⟩
instance fnBlRun2 {d:List Ent}{l:List Bs}{h t:Int}{xs ys:List AV}{id:Option Value}[hx:Ents xs d][hy:Strs ys l]:Ans Tryz.prog GL 10 [.agg 1 [.sl 2 xs none],.agg 3 [int h,int t,.sl 1 ys id]] (DOk d∧l.length≤1000000∧∀ s ∈ l,s.length≤1000000000∧(rtxE (xs0 s)=0→(rtxV (xs0 s)).k=2))
   (.tup [dA (runR d ⟨h,t,l⟩).1,.sl 3 ((runR d ⟨h,t,l⟩).2.1.map repA) none,.sl 15 ((runR d ⟨h,t,l⟩).2.2.map evA) none]):=fnBlRunK (K:=fun k=>k=2) fnCoDo2
end Go.Proofs.YtmadjfemenlamaaGreatDoor

namespace Go.Proofs.YtmadjfemenlamaaGreatDoor
open Go Go.RowKit Tw Av
instance fnSameR {a:List Rep}{id id2:Option Value}:Ans Tryz.prog GL 15 [.sl 3 (a.map repA) id,.sl 3 (a.map repA) id2] True (boo true):=⟨fun _=>by
 have hma:(a.map repA).length=a.length:=List.length_map _
 refine spec_enter Tryz.func15 rfl Tryz.ntmps15 rfl (fun _ hs=>?_)
 refine ac_bnd 0 (fun hb=>?_)
 have hb:=maxLen_le hb
 repeat' first|refine Zz ?_|intro _
 refine ac_loop (α:=Nat) (fun i=>[(0,.sl 3 (a.map repA) id),(1,.sl 3 (a.map repA) id2),(5,int i)]) (fun _=>[]) (fun i=>i≤a.length) (fun i=>a.length - i) 0 ⟨rfl,rfl,rfl,trivial⟩ (List.Sublist.refl _) (Nat.zero_le _) ?_
 intro i hi
 repeat' first|refine Vz ?_|intro _
 refine ac_cond (fun hlt=>?_) (fun hlt=>?_)
 ·have hia:i < a.length:=by omega
  repeat' first|refine Vz ?_|intro _
  exact ae_round (i + 1) ⟨rfl,rfl,rfl,trivial⟩ (List.Sublist.refl _) hia (by omega)
 ·repeat' first|refine Vz ?_|intro _
  refine reE ?_
  rfl⟩
instance fnSameV {a:List EvX}{id id2:Option Value}:Ans Tryz.prog GL 16 [.sl 15 (a.map evA) id,.sl 15 (a.map evA) id2] True (boo true):=⟨fun _=>by
 have hma:(a.map evA).length=a.length:=List.length_map _
 refine spec_enter Tryz.func16 rfl Tryz.ntmps16 rfl (fun _ hs=>?_)
 refine ac_bnd 0 (fun hb=>?_)
 have hb:=maxLen_le hb
 repeat' first|refine Zz ?_|intro _
 refine ac_loop (α:=Nat) (fun i=>[(0,.sl 15 (a.map evA) id),(1,.sl 15 (a.map evA) id2),(5,int i)]) (fun _=>[]) (fun i=>i≤a.length) (fun i=>a.length - i) 0 ⟨rfl,rfl,rfl,trivial⟩ (List.Sublist.refl _) (Nat.zero_le _) ?_
 intro i hi
 repeat' first|refine Vz ?_|intro _
 refine ac_cond (fun hlt=>?_) (fun hlt=>?_)
 ·have hia:i < a.length:=by omega
  repeat' first|refine Vz ?_|intro _
  exact ae_round (i + 1) ⟨rfl,rfl,rfl,trivial⟩ (List.Sublist.refl _) hia (by omega)
 ·repeat' first|refine Vz ?_|intro _
  refine reE ?_
  rfl⟩
end Go.Proofs.YtmadjfemenlamaaGreatDoor
