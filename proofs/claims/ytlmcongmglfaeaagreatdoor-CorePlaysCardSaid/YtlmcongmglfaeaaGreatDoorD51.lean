/- law CorePlays -/
import Derived.Test.YtlmcongmglfaeaaGreatDoorD24
import Derived.Test.YtlmcongmglfaeaaGreatDoorD43
import Derived.Test.YtlmcongmglfaeaaGreatDoorD44
import Derived.Test.YtlmcongmglfaeaaGreatDoorD45
import Derived.Test.YtlmcongmglfaeaaGreatDoorD46
namespace Go.Proofs.YtlmcongmglfaeaaGreatDoor
open Go Go.RowKit Tw Av
set_option maxHeartbeats 1000000 in
theorem fnBegun {f:Bool}:Av.Spec Tryz.prog GL 8 [boo f] [] fun u m=>∃ a b p0 t0 p1 t1,(SOk 0 a/\SOk 0 b)/\u=wdA a b (idP p0 t0) (idP p1 t1)/\m=tlS (idP p0 t0)++tlS (idP p1 t1):=by
 refine qE Tryz.func8 rfl Tryz.ntmps8 rfl (fun _ hs=>?_)
 cases f
 ·repeat' first|refine Zz ?_|intro _
  refine al_callK (args:=[]) [] _ (by rw [hs];exact fnWOpened) (fun u m1 hh=>?_) lpr
  obtain⟨p0,t0,p1,t1,rfl,rfl⟩:=hh
  refine al_rot _ _ ?_
  repeat' first|refine Zz ?_|intro _
  refine reK (tlS (idP p0 t0)++tlS (idP p1 t1)) ⟨_,_,_,_,_,_,⟨opeS_ok false,opeS_ok true⟩,rfl,rfl⟩ ?_
  exact sbl
 ·repeat' first|refine Zz ?_|intro _
  refine al_callK (args:=[]) [] _ (by rw [hs];exact fnWFresh) (fun u m1 hh=>?_) lpr
  obtain⟨p0,t0,p1,t1,rfl,rfl⟩:=hh
  refine al_rot _ _ ?_
  repeat' first|refine Zz ?_|intro _
  refine reK (tlS (idP p0 t0)++tlS (idP p1 t1)) ⟨_,_,_,_,_,_,⟨freS_ok false,freS_ok true⟩,rfl,rfl⟩ ?_
  exact sbl
structure WdX where
 a:SideX
 b:SideX
 I:IdS
 J:IdS
abbrev WdX.A (w:WdX):AV:=wdA w.a w.b w.I w.J
abbrev WdX.M (w:WdX):List Av.Piece:=tlS w.I++tlS w.J
abbrev WdX.Ok (N:Nat)(w:WdX):Prop:=SOk N w.a/\SOk N w.b

def Kept (d:List Ent)(o:Out18):Prop:=o.2.e≠0->o.1=d
theorem failR_k {d:List Ent}{e:Int}:Kept d (failR d e):=fun _=>rfl
theorem tellR_k {d:List Ent}{r:List Ent × Int}{p:Rep}(h:p.e=0):Kept d (tellR d r p):=by
 unfold tellR
 split
 ·exact fun h'=>absurd h h'
 ·exact failR_k
theorem putsR_k {d:List Ent}{k v:Bs}:Kept d (putsR d k v):=tellR_k rfl
theorem begR_k {d:List Ent}{x:TxX}{i k:Bs}{b:Bool}{t:Int}:Kept d (begR d x i k b t):=by
 unfold begR
 repeat' (first|exact failR_k|exact putsR_k|split)
theorem joiR_k {d:List Ent}{x:TxX}{own:EndX}{i k:Bs}{b:Bool}{t:Int}:Kept d (joiR d x own i k b t):=by
 cases b
 ·rw [joi_f]
  unfold joiQ
  repeat' (first|exact failR_k|exact putsR_k|split)
 ·rw [joi_t]
  unfold joiQ
  repeat' (first|exact failR_k|exact putsR_k|split)
theorem endR_k {d:List Ent}{x:Pkt}{b:Bool}{e:Int}:Kept d (endR d x b e):=by
 unfold endR
 split
 ·exact failR_k
 split
 ·exact failR_k
 split
 ·exact failR_k
 split
 ·exact failR_k
 ·exact fun h=>absurd rfl h
set_option maxHeartbeats 2000000 in
theorem doR_k (d:List Ent)(x:TxX)(h t:Int):Kept d (doR d x h t):=by
 unfold doR
 split
 ·unfold fundR;split <;> first|exact failR_k|exact tellR_k rfl
 split
 ·unfold movR;split <;> first|exact failR_k|exact tellR_k rfl
 split
 ·unfold creR
  repeat' (first|exact failR_k|exact putsR_k|split)
 split
 ·unfold updR
  repeat' (first|exact failR_k|exact putsR_k|split)
 split
 ·unfold conR
  repeat' (first|exact failR_k|exact begR_k|split)
 split
 ·unfold codR
  repeat' (first|exact failR_k|exact joiR_k|split)
 split
 ·unfold opnR
  repeat' (first|exact failR_k|exact begR_k|split)
 split
 ·unfold opdR
  repeat' (first|exact failR_k|exact joiR_k|split)
 split
 ·unfold sndR
  repeat' (first|exact failR_k|exact tellR_k rfl|split)
 split
 ·unfold rcvR
  repeat' (first|exact failR_k|exact tellR_k rfl|split)
 split
 ·unfold acksR
  repeat' (first|exact failR_k|exact endR_k|split)
 split
 ·unfold timR
  repeat' (first|exact failR_k|exact endR_k|split)
 ·exact failR_k

attribute [local irreducible] doR
set_option maxRecDepth 100000 in
set_option pp.maxSteps 200000 in
set_option maxHeartbeats 4000000 in
instance fnCorePlays {f:Bool}{l:List StpX}{id:Option Value}:Ans Tryz.prog GL 3 [boo f,.sl 6 (l.map stpA) id] True (boo true):=⟨fun _=>by
 have hlm:(l.map stpA).length=l.length:=llm _
 refine qE Tryz.func3 rfl Tryz.ntmps3 rfl (fun _ hs=>?_)
 repeat' first|refine Zz ?_|intro _
 refine al_callK (args:=[boo f]) [] _ (by rw [hs];exact fnBegun) (fun u m1 hh=>?_) lpr
 obtain⟨a,b,p0,t0,p1,t1,⟨ha,hb⟩,rfl,rfl⟩:=hh
 refine al_rot _ _ ?_
 repeat' first|refine Zz ?_|intro _
 rename_i g6
 refine ac_midB (α:=Unit) (fun _=>[(5,boo true)]) (fun _=>[]) ?_ (fun _=>?_)
 ·refine ac_loop (α:=Nat × WdX) (fun z=>[(1,.sl 6 (l.map stpA) id),(4,.lit (.bool false)),(5,boo true),(6,ptr g6),(7,int z.1)]) (fun z=>[.var g6 33 z.2.A]++z.2.M) (fun z=>z.1<=25/\z.1<=l.length/\z.2.Ok z.1) (fun z=>25 - z.1) (0,⟨a,b,idP p0 t0,idP p1 t1⟩) ⟨rfl,rfl,rfl,rfl,rfl,trivial⟩ slr ⟨Nat.zero_le _,Nat.zero_le _,ha,hb⟩ ?_
  clear ha hb a b p0 t0 p1 t1
  rintro⟨i,⟨a,b,I,J⟩⟩ ⟨h1,h2,ha,hb⟩
  dsimp only at h1 h2 ha hb ⊢
  by_cases hlt:(i:Int) < l.length
  ·by_cases h12:(i:Int) < 25
   ·have hil:i < l.length:=by omega
    have hi:l[i].i % 2=0\/l[i].i % 2=1:=by omega
    rcases hi with hi|hi
    ·have hN:∃ N,N<=1000/\SOk N a/\SOk N b:=⟨i,by omega,ha,hb⟩
     have hXb:=wTx_b (s:=l[i]) (by omega:i<=1000) ha hb
     have hXp:=wTx_pk (s:=l[i]) (by omega:i<=1000) ha hb
     have hda:=ha.d
     have hdb:=hb.d
     have hdl:a.d.length<=2000:=hda.l
     have hdo:dictOf a.d=a.d:=hda.id
     have hA:DOk a.d/\TxB (wTx a b l[i]):=⟨hda,hXb⟩
     have hh:0<=a.h/\a.h<=1000000:=by have:=ha.h;have:=ha.hN;omega
     by_cases hk:(wTx a b l[i]).k=0
     ·repeat' first|refine Zz ?_|intro _
      rw [hi]
      repeat' first|refine Zz ?_|intro _
      rw [hk]
      repeat' first|refine Zz ?_|intro _
      rename_i g8 g10 g11 g13
      refine al_as 100 (v':=.sl 2 [] none) ImpR.imp ?_
      refine al_up (tlS I++tlS J) [_,_,_,_,_] [] ?_
      refine al_callK (args:=[wdA a b I J,stpA l[i],txA (wTx a b l[i]),.sl 2 ((([]:List Ent)).map entA) none,repA rep0]) (tlS I++tlS J) _ (by rw [hs];exact fnWAfter0 (N:=i) hi (by omega) ha DOk.nil hXp) (fun u m1 hu=>?_) lpr
      obtain⟨I',rfl,rfl⟩:=hu
      refine al_rot (tlS I'++tlS J) _ ?_
      have hO:SOk (i + 1) (aftX a l[i].t (wTx a b l[i]) ([]:List Ent) rep0):=aftX_ok ha hXp DOk.nil rep0_b
      generalize aftX a l[i].t (wTx a b l[i]) ([]:List Ent) rep0=A at *
      repeat' first|refine Zz ?_|intro _
      refine ae_round (i + 1,⟨A,b,I',J⟩) ⟨rfl,rfl,rfl,rfl,rfl,trivial⟩ ?_ ⟨by show i + 1<=25;omega,by show i + 1<=l.length;omega,hO,hb.mono (Nat.le_succ i)⟩ (by show 25 - (i + 1) < 25 - i;omega)
      exact sbl
     ·repeat' first|refine Zz ?_|intro _
      rw [hi]
      repeat' first|refine Zz ?_|intro _
      rw [dT (show ¬ (wTx a b l[i]).k=0 from hk)]
      repeat' first|refine Zz ?_|intro _
      rw [hdo]
      iterate 4 refine ob1 ?_
      apply obl_float [61,59];kernel_rfl;kernel_rfl;kernel_rfl;exact⟨⟨_,inferInstance⟩,⟨_,inferInstance⟩,trivial⟩;intro g14
      apply obl_float [61,59];kernel_rfl;kernel_rfl;kernel_rfl;exact⟨⟨_,inferInstance⟩,⟨_,inferInstance⟩,trivial⟩;intro g15
      apply obl_writeN [15];exact rfl;exact rfl;kernel_rfl
      ·intro _ _
       refine al_store ?_
       exact al_nil (ae_gotN rfl)
      ·exact rfl
      ·exact rfl
      apply obl_writeN [16];exact rfl;exact rfl;kernel_rfl
      ·intro _ _
       refine al_store ?_
       exact al_nil (ae_gotN rfl)
      ·exact rfl
      ·exact rfl
      have hR1:DOk (doR a.d (wTx a b l[i]) (a.h + 1) a.t).1:=doR_dok hda
      have hRl:=hR1.l
      have hR2:=doR_b a.d (wTx a b l[i]) (a.h + 1) a.t
      have hR3:=doR_k a.d (wTx a b l[i]) (a.h + 1) a.t
      repeat' first|refine Zz ?_|intro _
      by_cases he:(doR a.d (wTx a b l[i]) (a.h + 1) a.t).2.e=0
      ·rw [dZ (show ¬ (doR a.d (wTx a b l[i]) (a.h + 1) a.t).2.e≠0 from fun h=>h he)]
       repeat' first|refine Zz ?_|intro _
       refine al_up (tlS I++tlS J) [_,_,_,_,_] [_,_] ?_
       refine al_callK (args:=[wdA a b I J,stpA l[i],txA (wTx a b l[i]),.sl 2 (((doR a.d (wTx a b l[i]) (a.h + 1) a.t).1).map entA) none,repA (doR a.d (wTx a b l[i]) (a.h + 1) a.t).2]) (tlS I++tlS J) _ (by rw [hs];exact fnWAfter0 (N:=i) hi (by omega) ha hR1 hXp) (fun u m1 hu=>?_) lpr
       obtain⟨I',rfl,rfl⟩:=hu
       refine al_rot (tlS I'++tlS J) _ ?_
       have hO:SOk (i + 1) (aftX a l[i].t (wTx a b l[i]) (doR a.d (wTx a b l[i]) (a.h + 1) a.t).1 (doR a.d (wTx a b l[i]) (a.h + 1) a.t).2):=aftX_ok ha hXp hR1 hR2
       generalize aftX a l[i].t (wTx a b l[i]) (doR a.d (wTx a b l[i]) (a.h + 1) a.t).1 (doR a.d (wTx a b l[i]) (a.h + 1) a.t).2=A at *
       repeat' first|refine Zz ?_|intro _
       refine ae_round (i + 1,⟨A,b,I',J⟩) ⟨rfl,rfl,rfl,rfl,rfl,trivial⟩ ?_ ⟨by show i + 1<=25;omega,by show i + 1<=l.length;omega,hO,hb.mono (Nat.le_succ i)⟩ (by show 25 - (i + 1) < 25 - i;omega)
       exact sbl
      ·rw [dT (show (doR a.d (wTx a b l[i]) (a.h + 1) a.t).2.e≠0 from he),dT (show (doR a.d (wTx a b l[i]) (a.h + 1) a.t).1=a.d from hR3 he)]
       repeat' first|refine Zz ?_|intro _
       refine al_up (tlS I++tlS J) [_,_,_,_,_] [_,_] ?_
       refine al_callK (args:=[wdA a b I J,stpA l[i],txA (wTx a b l[i]),.sl 2 (((doR a.d (wTx a b l[i]) (a.h + 1) a.t).1).map entA) none,repA (doR a.d (wTx a b l[i]) (a.h + 1) a.t).2]) (tlS I++tlS J) _ (by rw [hs];exact fnWAfter0 (N:=i) hi (by omega) ha hR1 hXp) (fun u m1 hu=>?_) lpr
       obtain⟨I',rfl,rfl⟩:=hu
       refine al_rot (tlS I'++tlS J) _ ?_
       have hO:SOk (i + 1) (aftX a l[i].t (wTx a b l[i]) (doR a.d (wTx a b l[i]) (a.h + 1) a.t).1 (doR a.d (wTx a b l[i]) (a.h + 1) a.t).2):=aftX_ok ha hXp hR1 hR2
       generalize aftX a l[i].t (wTx a b l[i]) (doR a.d (wTx a b l[i]) (a.h + 1) a.t).1 (doR a.d (wTx a b l[i]) (a.h + 1) a.t).2=A at *
       repeat' first|refine Zz ?_|intro _
       refine ae_round (i + 1,⟨A,b,I',J⟩) ⟨rfl,rfl,rfl,rfl,rfl,trivial⟩ ?_ ⟨by show i + 1<=25;omega,by show i + 1<=l.length;omega,hO,hb.mono (Nat.le_succ i)⟩ (by show 25 - (i + 1) < 25 - i;omega)
       exact sbl
    ·have hN:∃ N,N<=1000/\SOk N a/\SOk N b:=⟨i,by omega,ha,hb⟩
     have hXb:=wTx_b (s:=l[i]) (by omega:i<=1000) ha hb
     have hXp:=wTx_pk (s:=l[i]) (by omega:i<=1000) ha hb
     have hda:=ha.d
     have hdb:=hb.d
     have hdl:b.d.length<=2000:=hdb.l
     have hdo:dictOf b.d=b.d:=hdb.id
     have hA:DOk b.d/\TxB (wTx a b l[i]):=⟨hdb,hXb⟩
     have hh:0<=b.h/\b.h<=1000000:=by have:=hb.h;have:=hb.hN;omega
     by_cases hk:(wTx a b l[i]).k=0
     ·repeat' first|refine Zz ?_|intro _
      rw [hi]
      repeat' first|refine Zz ?_|intro _
      rw [hk]
      repeat' first|refine Zz ?_|intro _
      rename_i g8 g10 g11 g13
      refine al_as 100 (v':=.sl 2 [] none) ImpR.imp ?_
      refine al_up (tlS I++tlS J) [_,_,_,_,_] [] ?_
      refine al_callK (args:=[wdA a b I J,stpA l[i],txA (wTx a b l[i]),.sl 2 ((([]:List Ent)).map entA) none,repA rep0]) (tlS I++tlS J) _ (by rw [hs];exact fnWAfter1 (N:=i) hi (by omega) hb DOk.nil hXp) (fun u m1 hu=>?_) lpr
      obtain⟨J',rfl,rfl⟩:=hu
      refine al_rot (tlS I++tlS J') _ ?_
      have hO:SOk (i + 1) (aftX b l[i].t (wTx a b l[i]) ([]:List Ent) rep0):=aftX_ok hb hXp DOk.nil rep0_b
      generalize aftX b l[i].t (wTx a b l[i]) ([]:List Ent) rep0=A at *
      repeat' first|refine Zz ?_|intro _
      refine ae_round (i + 1,⟨a,A,I,J'⟩) ⟨rfl,rfl,rfl,rfl,rfl,trivial⟩ ?_ ⟨by show i + 1<=25;omega,by show i + 1<=l.length;omega,ha.mono (Nat.le_succ i),hO⟩ (by show 25 - (i + 1) < 25 - i;omega)
      exact sbl
     ·repeat' first|refine Zz ?_|intro _
      rw [hi]
      repeat' first|refine Zz ?_|intro _
      rw [dT (show ¬ (wTx a b l[i]).k=0 from hk)]
      repeat' first|refine Zz ?_|intro _
      rw [hdo]
      iterate 4 refine ob1 ?_
      apply obl_float [61,59];kernel_rfl;kernel_rfl;kernel_rfl;exact⟨⟨_,inferInstance⟩,⟨_,inferInstance⟩,trivial⟩;intro g14
      apply obl_float [61,59];kernel_rfl;kernel_rfl;kernel_rfl;exact⟨⟨_,inferInstance⟩,⟨_,inferInstance⟩,trivial⟩;intro g15
      apply obl_writeN [15];exact rfl;exact rfl;kernel_rfl
      ·intro _ _
       refine al_store ?_
       exact al_nil (ae_gotN rfl)
      ·exact rfl
      ·exact rfl
      apply obl_writeN [16];exact rfl;exact rfl;kernel_rfl
      ·intro _ _
       refine al_store ?_
       exact al_nil (ae_gotN rfl)
      ·exact rfl
      ·exact rfl
      have hR1:DOk (doR b.d (wTx a b l[i]) (b.h + 1) b.t).1:=doR_dok hdb
      have hRl:=hR1.l
      have hR2:=doR_b b.d (wTx a b l[i]) (b.h + 1) b.t
      have hR3:=doR_k b.d (wTx a b l[i]) (b.h + 1) b.t
      repeat' first|refine Zz ?_|intro _
      by_cases he:(doR b.d (wTx a b l[i]) (b.h + 1) b.t).2.e=0
      ·rw [dZ (show ¬ (doR b.d (wTx a b l[i]) (b.h + 1) b.t).2.e≠0 from fun h=>h he)]
       repeat' first|refine Zz ?_|intro _
       refine al_up (tlS I++tlS J) [_,_,_,_,_] [_,_] ?_
       refine al_callK (args:=[wdA a b I J,stpA l[i],txA (wTx a b l[i]),.sl 2 (((doR b.d (wTx a b l[i]) (b.h + 1) b.t).1).map entA) none,repA (doR b.d (wTx a b l[i]) (b.h + 1) b.t).2]) (tlS I++tlS J) _ (by rw [hs];exact fnWAfter1 (N:=i) hi (by omega) hb hR1 hXp) (fun u m1 hu=>?_) lpr
       obtain⟨J',rfl,rfl⟩:=hu
       refine al_rot (tlS I++tlS J') _ ?_
       have hO:SOk (i + 1) (aftX b l[i].t (wTx a b l[i]) (doR b.d (wTx a b l[i]) (b.h + 1) b.t).1 (doR b.d (wTx a b l[i]) (b.h + 1) b.t).2):=aftX_ok hb hXp hR1 hR2
       generalize aftX b l[i].t (wTx a b l[i]) (doR b.d (wTx a b l[i]) (b.h + 1) b.t).1 (doR b.d (wTx a b l[i]) (b.h + 1) b.t).2=A at *
       repeat' first|refine Zz ?_|intro _
       refine ae_round (i + 1,⟨a,A,I,J'⟩) ⟨rfl,rfl,rfl,rfl,rfl,trivial⟩ ?_ ⟨by show i + 1<=25;omega,by show i + 1<=l.length;omega,ha.mono (Nat.le_succ i),hO⟩ (by show 25 - (i + 1) < 25 - i;omega)
       exact sbl
      ·rw [dT (show (doR b.d (wTx a b l[i]) (b.h + 1) b.t).2.e≠0 from he),dT (show (doR b.d (wTx a b l[i]) (b.h + 1) b.t).1=b.d from hR3 he)]
       repeat' first|refine Zz ?_|intro _
       refine al_up (tlS I++tlS J) [_,_,_,_,_] [_,_] ?_
       refine al_callK (args:=[wdA a b I J,stpA l[i],txA (wTx a b l[i]),.sl 2 (((doR b.d (wTx a b l[i]) (b.h + 1) b.t).1).map entA) none,repA (doR b.d (wTx a b l[i]) (b.h + 1) b.t).2]) (tlS I++tlS J) _ (by rw [hs];exact fnWAfter1 (N:=i) hi (by omega) hb hR1 hXp) (fun u m1 hu=>?_) lpr
       obtain⟨J',rfl,rfl⟩:=hu
       refine al_rot (tlS I++tlS J') _ ?_
       have hO:SOk (i + 1) (aftX b l[i].t (wTx a b l[i]) (doR b.d (wTx a b l[i]) (b.h + 1) b.t).1 (doR b.d (wTx a b l[i]) (b.h + 1) b.t).2):=aftX_ok hb hXp hR1 hR2
       generalize aftX b l[i].t (wTx a b l[i]) (doR b.d (wTx a b l[i]) (b.h + 1) b.t).1 (doR b.d (wTx a b l[i]) (b.h + 1) b.t).2=A at *
       repeat' first|refine Zz ?_|intro _
       refine ae_round (i + 1,⟨a,A,I,J'⟩) ⟨rfl,rfl,rfl,rfl,rfl,trivial⟩ ?_ ⟨by show i + 1<=25;omega,by show i + 1<=l.length;omega,ha.mono (Nat.le_succ i),hO⟩ (by show 25 - (i + 1) < 25 - i;omega)
       exact sbl
   ·repeat' first|refine Zz ?_|intro _
    exact ae_cut () ⟨rfl,trivial⟩ (List.nil_sublist _)
  ·repeat' first|refine Zz ?_|intro _
   exact ae_cut () ⟨rfl,trivial⟩ (List.nil_sublist _)
 ·repeat' first|refine Zz ?_|intro _
  refine reE ?_
  rfl⟩
theorem corePlays_in {f:Bool}{l:List (Int × Int × Int × Int × Int × Int × Unit)} :
  SpecE Tryz.prog GL 3 [boo f,.sl 6 (l.map fun z=>AV.agg 6 [int z.1,int z.2.1,int z.2.2.1,int z.2.2.2.1,int z.2.2.2.2.1,int z.2.2.2.2.2.1]) none] (boo true):=by
 have e:(l.map fun z=>AV.agg 6 [int z.1,int z.2.1,int z.2.2.1,int z.2.2.2.1,int z.2.2.2.2.1,int z.2.2.2.2.2.1])=(l.map fun z=>(⟨z.1,z.2.1,z.2.2.1,z.2.2.2.1,z.2.2.2.2.1,z.2.2.2.2.2.1⟩:StpX)).map stpA:=by
  rw [List.map_map]
  rfl
 rw [e]
 exact fnCorePlays.spec trivial
end Go.Proofs.YtlmcongmglfaeaaGreatDoor
