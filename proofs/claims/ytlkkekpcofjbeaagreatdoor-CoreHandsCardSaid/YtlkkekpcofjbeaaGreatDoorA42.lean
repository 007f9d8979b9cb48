/- law CoreHands (draft, not built) -/
import Derived.Test.YtlkkekpcofjbeaaGreatDoorA38
import Derived.Test.YtlkkekpcofjbeaaGreatDoorA39
import Derived.Test.YtlkkekpcofjbeaaGreatDoorA40
import Derived.Test.YtlkkekpcofjbeaaGreatDoorA41
namespace Go.Proofs.YtlkkekpcofjbeaaGreatDoor
open Go Go.RowKit Tw Av
set_option maxRecDepth 100000
attribute [local irreducible] rootD doR txX mpH
def haB (n:Nat)(s:Int):Bool:=decide (n % 4≠0) && (decide (s≠0) && !(decide (s=6) && decide (n % 4=3)))
theorem ha_up {n:Nat}(h:n < 8):doR (haS (haI n) n).d (txX (haI n) (haS (haI n) n) (haS (!haI n) (n + 1)) ⟨((haI n).toNat:Int),1,0,0,0,0⟩) ((haS (haI n) n).h + 1) (haS (haI n) n).t=((haT (haI n) n).d,rep0):=by
 rcases n with _|_|_|_|_|_|_|_|n
 ·exact up_0
 ·exact up_1
 ·exact up_2
 ·exact up_3
 ·exact up_4
 ·exact up_5
 ·exact up_6
 ·exact up_7
 ·omega
theorem ha_go {n:Nat}{s:Int}(h:n < 8)(hs:s=0\/s=1\/s=3\/s=6) :
  doR (haT (haI n) n).d (txX (haI n) (haT (haI n) n) (haS (!haI n) (n + 1)) ⟨((haI n).toNat:Int),(n:Int) + 2,0,0,0,s⟩) ((haT (haI n) n).h + 1) (haT (haI n) n).t=if haB n s=true then ((haT (haI n) n).d,repE 18) else ((haS (haI n) (n + 1)).d,rep0):=by
 rcases n with _|_|_|_|_|_|_|_|n
 ·rcases hs with rfl|rfl|rfl|rfl
  ·exact go_0_0
  ·exact go_0_1
  ·exact go_0_3
  ·exact go_0_6
 ·rcases hs with rfl|rfl|rfl|rfl
  ·exact go_1_0
  ·exact go_1_1
  ·exact go_1_3
  ·exact go_1_6
 ·rcases hs with rfl|rfl|rfl|rfl
  ·exact go_2_0
  ·exact go_2_1
  ·exact go_2_3
  ·exact go_2_6
 ·rcases hs with rfl|rfl|rfl|rfl
  ·exact go_3_0
  ·exact go_3_1
  ·exact go_3_3
  ·exact go_3_6
 ·rcases hs with rfl|rfl|rfl|rfl
  ·exact go_4_0
  ·exact go_4_1
  ·exact go_4_3
  ·exact go_4_6
 ·rcases hs with rfl|rfl|rfl|rfl
  ·exact go_5_0
  ·exact go_5_1
  ·exact go_5_3
  ·exact go_5_6
 ·rcases hs with rfl|rfl|rfl|rfl
  ·exact go_6_0
  ·exact go_6_1
  ·exact go_6_3
  ·exact go_6_6
 ·rcases hs with rfl|rfl|rfl|rfl
  ·exact go_7_0
  ·exact go_7_1
  ·exact go_7_3
  ·exact go_7_6
 ·omega
theorem ha_e0:enR (haS false 8).d [72] [99,97]=chaX false/\enB (haS false 8).d [72] [99,97]=true:=⟨by kernel_rfl,by kernel_rfl⟩
theorem ha_e1:enR (haS true 8).d [72] [99,98]=chaX true/\enB (haS true 8).d [72] [99,98]=true:=⟨by kernel_rfl,by kernel_rfl⟩
theorem ha_e2:enR (haS false 8).d [75] [110,97]=conE false/\enB (haS false 8).d [75] [110,97]=true:=⟨by kernel_rfl,by kernel_rfl⟩
theorem ha_nx {n:Nat}:{ haS (haI n) n with d:=(haS (haI n) (n + 1)).d }=haS (haI n) (n + 1):=by
 unfold haI
 by_cases h:n % 2=1
 ·rw [dT h]
  have e:haX true (n + 1)=haX true n:=by unfold haX;rw [if_pos rfl,if_pos rfl];omega
  unfold haS haP
  dsimp only
  rw [e]
 ·rw [dZ h]
  have e:haX false (n + 1)=haX false n:=by unfold haX;rw [if_neg (by decide),if_neg (by decide)];omega
  unfold haS haP
  dsimp only
  rw [e]
theorem ha_tx {n:Nat}{s:Int}(h:n < 8):(txX (haI n) (haT (haI n) n) (haS (!haI n) (n + 1)) ⟨((haI n).toNat:Int),(n:Int) + 2,0,0,0,s⟩).k=(n:Int) + 5:=by
 unfold txX
 have e:∀ z:TxX,(spoX (s % 16) z).k=z.k:=fun z=>by
  unfold spoX
  (repeat' split) <;> rfl
 rw [e]
 rcases n with _|_|_|_|_|_|_|_|n
 all_goals first|rfl|omega
end Go.Proofs.YtlkkekpcofjbeaaGreatDoor

namespace Go.Proofs.YtlkkekpcofjbeaaGreatDoor
open Go Go.RowKit Tw Av
attribute [local irreducible] rootD doR txX mpH
theorem SOk.putD {N:Nat}{x:SideX}{d:List Ent}(h:SOk N x)(hd:DOk d):SOk N { x with d:=d }:=⟨h.n,hd,h.h,h.h1,h.hN,h.t,h.p,h.tl,h.ts,h.s,h.sl,h.g,h.gl,h.a,h.al⟩
theorem ha_dt {n:Nat}(h:n < 8)(ho:SOk n (haS (haI n) n)):DOk (haT (haI n) n).d:=by
 have h2:=doR_dok (x:=txX (haI n) (haS (haI n) n) (haS (!haI n) (n + 1)) ⟨((haI n).toNat:Int),1,0,0,0,0⟩) (h:=(haS (haI n) n).h + 1) (t:=(haS (haI n) n).t) ho.d
 rw [ha_up h] at h2
 exact h2
theorem haB_0 {n:Nat}:haB n 0=false:=by
 unfold haB
 simp
theorem ha_dn {n:Nat}(h:n < 8)(ho:SOk n (haS (haI n) n)):DOk (haS (haI n) (n + 1)).d:=by
 have h2:=doR_dok (x:=txX (haI n) (haT (haI n) n) (haS (!haI n) (n + 1)) ⟨((haI n).toNat:Int),(n:Int) + 2,0,0,0,0⟩) (h:=(haT (haI n) n).h + 1) (t:=(haT (haI n) n).t) (ha_dt h ho)
 rw [ha_go h (.inl rfl),haB_0,if_neg (by decide)] at h2
 exact h2
theorem haS_ok:∀ {n:Nat},n<=8->∀ i,SOk n (haS i n)
 | 0,_,i=>freS_is i ▸ freS_ok i
 | n + 1,h,i=>by
  have hn:n < 8:=h
  have ih:=haS_ok (Nat.le_of_lt hn)
  by_cases e:i=haI n
  ·subst e
   have h3:=(ih (haI n)).putD (ha_dn hn (ih _))
   rw [ha_nx] at h3
   exact h3.mono (Nat.le_succ n)
  ·have e2:i=!haI n:=by cases i <;> cases hh:haI n <;> simp_all
   subst e2
   have h3:=cutX_ok (ih (!haI n)) (t:=(haS (!haI n) n).t + 0 % 4) (by omega)
   rw [cut_is] at h3
   exact h3
theorem haT_ok {n:Nat}(h:n < 8):SOk n (haT (haI n) n):=(haS_ok (Nat.le_of_lt h) (haI n)).putD (ha_dt h (haS_ok (Nat.le_of_lt h) _))
theorem ha_au {n:Nat}{z:TxX}(hk:z.k=4):aftX (haS (haI n) n) 0 z (haT (haI n) n).d rep0=haT (haI n) n:=by
 unfold aftX
 rw [if_neg (by omega),if_neg (by decide),if_neg (by omega),if_neg (by omega)]
 rfl
theorem ha_ag {n:Nat}{z:TxX}(hn:n < 8)(hk:z.k=(n:Int) + 5):aftX (haT (haI n) n) 0 z (haS (haI n) (n + 1)).d rep0=haS (haI n) (n + 1):=by
 unfold aftX
 rw [if_neg (by omega),if_neg (by decide),if_neg (by omega),if_neg (by omega)]
 exact ha_nx
theorem ha_ac {n:Nat}{z:TxX}{d:List Ent}{r:Rep}(hk:z.k=0):aftX (haS (!haI n) n) 0 z d r=haS (!haI n) (n + 1):=by
 unfold aftX
 rw [if_pos hk]
 exact cut_is
end Go.Proofs.YtlkkekpcofjbeaaGreatDoor

namespace Go.Proofs.YtlkkekpcofjbeaaGreatDoor
open Go Go.RowKit Tw Av
def KHa (k:Int):Prop:=k=4\/k=5\/k=6\/k=7\/k=8\/k=9\/k=10\/k=11\/k=12
theorem wTx_b {N:Nat}{a b:SideX}{s:StpX}(hN:N<=1000)(ha:SOk N a)(hb:SOk N b):TxB (wTx a b s):=by
 unfold wTx
 split
 ·exact txX_b hb ha hN _ _
 ·exact txX_b ha hb hN _ _
theorem wTx_pk {N:Nat}{a b:SideX}{s:StpX}(hN:N<=1000)(ha:SOk N a)(hb:SOk N b):PkB (wTx a b s).x:=by
 unfold wTx
 split
 ·exact txX_pk hb ha hN _ _
 ·exact txX_pk ha hb hN _ _
section
attribute [local irreducible] doR callV updR conR codR opnR opdR
set_option maxHeartbeats 4000000 in
theorem fnCoDoHa {d:List Ent}{h t:Int}{x:TxX}:Ans Tryz.prog GL 12 [.agg 1 [.sl 2 (d.map entA) none],txA x,int h,int t] (DOk d/\TxB x/\KHa x.k) (.tup [dA (doR d x h t).1,repA (doR d x h t).2]):=⟨fun hp=>by
 obtain⟨hd,hb,hk⟩:=hp
 have hq:DOk d/\TxB x:=⟨hd,hb⟩
 refine qE Tryz.func12 rfl Tryz.ntmps12 rfl (fun _ hs=>?_)
 repeat' first|refine Zz ?_|intro _
 rcases hk with h|h|h|h|h|h|h|h|h
 ·rw [h,call4,do4 h]
  repeat' first|refine Zz ?_|intro _
  refine al_fnNF (by kernel_rfl) ?_
  repeat' first|refine Zz ?_|intro _
  refine reE ?_
  rfl
 ·rw [h,call5,do5 h]
  repeat' first|refine Zz ?_|intro _
  refine al_fnNF (by kernel_rfl) ?_
  repeat' first|refine Zz ?_|intro _
  refine reE ?_
  rfl
 ·rw [h,call6,do6 h]
  repeat' first|refine Zz ?_|intro _
  refine al_fnNF (by kernel_rfl) ?_
  repeat' first|refine Zz ?_|intro _
  refine reE ?_
  rfl
 ·rw [h,call7,do7 h]
  repeat' first|refine Zz ?_|intro _
  refine al_fnNF (by kernel_rfl) ?_
  repeat' first|refine Zz ?_|intro _
  refine reE ?_
  rfl
 ·rw [h,call8,do8 h]
  repeat' first|refine Zz ?_|intro _
  refine al_fnNF (by kernel_rfl) ?_
  repeat' first|refine Zz ?_|intro _
  refine reE ?_
  rfl
 ·rw [h,call9,do9 h]
  repeat' first|refine Zz ?_|intro _
  refine al_fnNF (by kernel_rfl) ?_
  repeat' first|refine Zz ?_|intro _
  refine reE ?_
  rfl
 ·rw [h,call10,do10 h]
  repeat' first|refine Zz ?_|intro _
  refine al_fnNF (by kernel_rfl) ?_
  repeat' first|refine Zz ?_|intro _
  refine reE ?_
  rfl
 ·rw [h,call11,do11 h]
  repeat' first|refine Zz ?_|intro _
  refine al_fnNF (by kernel_rfl) ?_
  repeat' first|refine Zz ?_|intro _
  refine reE ?_
  rfl
 ·rw [h,call12,do12 h]
  repeat' first|refine Zz ?_|intro _
  refine al_fnNF (by kernel_rfl) ?_
  repeat' first|refine Zz ?_|intro _
  refine reE ?_
  rfl⟩
end
section
variable {P:Program} {N:Nat} {Q:Exit->Act->World->Prop} {s:Av.Base} {e:Av.Env}
theorem ac_rot {c:Code}(B r:List Av.Piece)(h:AC P N c Q s e (r++B)):AC P N c Q s e (B++r):=AC.mk fun ok w a hS ha=>h.run ok w a (hS.perm List.perm_append_comm) ha
end
attribute [local instance] fnCoDoHa
attribute [local irreducible] doR wTx
set_option maxHeartbeats 4000000 in
theorem fnStep0 {a b:SideX}{I J:IdS}{s:StpX}{N:Nat}(hi:s.i % 2=0)(hN:N<=1000)(ha:SOk N a)(hb:SOk N b)(hk:KHa (wTx a b s).k):Av.Spec Tryz.prog GL 7 [wdA a b I J,stpA s] (tlS I++tlS J)
  fun u m=>∃ I',u=.agg 19 [wdA (aftX a s.t (wTx a b s) (doR a.d (wTx a b s) (a.h + 1) a.t).1 (doR a.d (wTx a b s) (a.h + 1) a.t).2) b I' J,boo (decide ((doR a.d (wTx a b s) (a.h + 1) a.t).2.e=0))]/\m=tlS I'++tlS J:=by
 have hx:∃ N,N<=1000/\SOk N a/\SOk N b:=⟨N,hN,ha,hb⟩
 have hdo:dictOf a.d=a.d:=ha.d.id
 have hdl:a.d.length<=2000:=ha.d.l
 have hh:0<=a.h/\a.h<=1000000:=by have:=ha.h;have:=ha.hN;omega
 have hk0:¬ (wTx a b s).k=0:=by unfold KHa at hk;omega
 have hCo:DOk a.d/\TxB (wTx a b s)/\KHa (wTx a b s).k:=⟨ha.d,wTx_b hN ha hb,hk⟩
 have hdS:DOk (doR a.d (wTx a b s) (a.h + 1) a.t).1:=doR_dok ha.d
 have hdL:=hdS.l
 have hpk:=wTx_pk (s:=s) hN ha hb
 refine qE Tryz.func7 rfl Tryz.ntmps7 rfl (fun _ hs=>?_)
 repeat' first|refine Zz ?_|intro _
 rw [hi]
 repeat' first|refine Zz ?_|intro _
 rw [hdo]
 iterate 4 refine ob1 ?_
 apply obl_float [70,59];kernel_rfl;kernel_rfl;kernel_rfl;exact⟨⟨_,inferInstance⟩,⟨_,inferInstance⟩,trivial⟩;intro g9
 apply obl_float [70,59];kernel_rfl;kernel_rfl;kernel_rfl;exact⟨⟨_,inferInstance⟩,⟨_,inferInstance⟩,trivial⟩;intro g10
 apply obl_writeN [15];exact rfl;exact rfl;kernel_rfl
 ·intro _ _
  refine al_store ?_
  exact al_nil (ae_gotN rfl)
 ·exact rfl
 ·exact rfl
 apply obl_writeN [16];exact rfl;exact rfl;kernel_rfl
 ·intro _ _
  refine al_store ?_
  exact al_nil (ae_gotN rfl)
 ·exact rfl
 ·exact rfl
 generalize hR:doR a.d (wTx a b s) (a.h + 1) a.t=R at *
 repeat' (first|refine ct1 ?_|refine op1 ?_|refine opL ?_|refine op2 ?_|intro _)
 refine ac_rot [_,_,_,_,_,_,_,_,_,_,_,_,_,_,_] [_,_] ?_
 refine ac_perm [0,1,2,3,4,5,7,8,9,6,10,11] (by kernel_rfl) rfl hs (by kernel_rfl) ?_
 repeat' first|refine Zz ?_|intro _
 apply obl_fresh [7,8,9,10,11,12,13,14,15,16];exact rfl;exact rfl;exact rfl;kernel_rfl;intro _ hg
 refine al_callK (args:=[wdA a b I J,stpA s,txA (wTx a b s),.sl 2 (R.1.map entA) none,repA R.2]) (tlS I++tlS J) _ (by rw [hg];exact fnWAfter0 hi hN ha hdS hpk) (fun u m1 hu=>?_) lpr
 obtain⟨I',rfl,rfl⟩:=hu
 refine al_nil (ae_fresh (tlS I'++tlS J) [] rfl rfl lpr rfl ?_)
 repeat' first|refine Zz ?_|intro _
 refine reK (tlS I'++tlS J) ⟨I',rfl,rfl⟩ ?_
 exact sbl
set_option maxHeartbeats 4000000 in
theorem fnStep1 {a b:SideX}{I J:IdS}{s:StpX}{N:Nat}(hi:s.i % 2=1)(hN:N<=1000)(ha:SOk N a)(hb:SOk N b)(hk:KHa (wTx a b s).k):Av.Spec Tryz.prog GL 7 [wdA a b I J,stpA s] (tlS I++tlS J)
  fun u m=>∃ J',u=.agg 19 [wdA a (aftX b s.t (wTx a b s) (doR b.d (wTx a b s) (b.h + 1) b.t).1 (doR b.d (wTx a b s) (b.h + 1) b.t).2) I J',boo (decide ((doR b.d (wTx a b s) (b.h + 1) b.t).2.e=0))]/\m=tlS I++tlS J':=by
 have hx:∃ N,N<=1000/\SOk N a/\SOk N b:=⟨N,hN,ha,hb⟩
 have hdo:dictOf b.d=b.d:=hb.d.id
 have hdl:b.d.length<=2000:=hb.d.l
 have hh:0<=b.h/\b.h<=1000000:=by have:=hb.h;have:=hb.hN;omega
 have hk0:¬ (wTx a b s).k=0:=by unfold KHa at hk;omega
 have hCo:DOk b.d/\TxB (wTx a b s)/\KHa (wTx a b s).k:=⟨hb.d,wTx_b hN ha hb,hk⟩
 have hdS:DOk (doR b.d (wTx a b s) (b.h + 1) b.t).1:=doR_dok hb.d
 have hdL:=hdS.l
 have hpk:=wTx_pk (s:=s) hN ha hb
 refine qE Tryz.func7 rfl Tryz.ntmps7 rfl (fun _ hs=>?_)
 repeat' first|refine Zz ?_|intro _
 rw [hi]
 repeat' first|refine Zz ?_|intro _
 rw [hdo]
 iterate 4 refine ob1 ?_
 apply obl_float [70,59];kernel_rfl;kernel_rfl;kernel_rfl;exact⟨⟨_,inferInstance⟩,⟨_,inferInstance⟩,trivial⟩;intro g9
 apply obl_float [70,59];kernel_rfl;kernel_rfl;kernel_rfl;exact⟨⟨_,inferInstance⟩,⟨_,inferInstance⟩,trivial⟩;intro g10
 apply obl_writeN [15];exact rfl;exact rfl;kernel_rfl
 ·intro _ _
  refine al_store ?_
  exact al_nil (ae_gotN rfl)
 ·exact rfl
 ·exact rfl
 apply obl_writeN [16];exact rfl;exact rfl;kernel_rfl
 ·intro _ _
  refine al_store ?_
  exact al_nil (ae_gotN rfl)
 ·exact rfl
 ·exact rfl
 generalize hR:doR b.d (wTx a b s) (b.h + 1) b.t=R at *
 repeat' (first|refine ct1 ?_|refine op1 ?_|refine opL ?_|refine op2 ?_|intro _)
 refine ac_rot [_,_,_,_,_,_,_,_,_,_,_,_,_,_,_] [_,_] ?_
 refine ac_perm [0,1,2,3,4,5,7,8,9,6,10,11] (by kernel_rfl) rfl hs (by kernel_rfl) ?_
 repeat' first|refine Zz ?_|intro _
 apply obl_fresh [7,8,9,10,11,12,13,14,15,16];exact rfl;exact rfl;exact rfl;kernel_rfl;intro _ hg
 refine al_callK (args:=[wdA a b I J,stpA s,txA (wTx a b s),.sl 2 (R.1.map entA) none,repA R.2]) (tlS I++tlS J) _ (by rw [hg];exact fnWAfter1 hi hN hb hdS hpk) (fun u m1 hu=>?_) lpr
 obtain⟨J',rfl,rfl⟩:=hu
 refine al_nil (ae_fresh (tlS I++tlS J') [] rfl rfl lpr rfl ?_)
 repeat' first|refine Zz ?_|intro _
 refine reK (tlS I++tlS J') ⟨J',rfl,rfl⟩ ?_
 exact sbl
end Go.Proofs.YtlkkekpcofjbeaaGreatDoor

namespace Go.Proofs.YtlkkekpcofjbeaaGreatDoor
open Go Go.RowKit Tw Av
set_option maxRecDepth 100000
theorem wt_0 {a b:SideX}{k s:Int}:wTx a b ⟨0,k,0,0,0,s⟩=txX false a b ⟨0,k,0,0,0,s⟩:=by
 unfold wTx
 rw [if_neg (by show ¬ (0:Int) % 2=1;decide)]
theorem wt_1 {a b:SideX}{k s:Int}:wTx a b ⟨1,k,0,0,0,s⟩=txX true b a ⟨1,k,0,0,0,s⟩:=by
 unfold wTx
 rw [if_pos (by show (1:Int) % 2=1;decide)]
theorem tx_k4 {i:Bool}{a b:SideX}{j:Int}:(txX i a b ⟨j,1,0,0,0,0⟩).k=4:=by
 unfold txX
 rfl
attribute [local irreducible] doR wTx mpH rootD txX
theorem imp_4 {A B C D:AV}:ImpRs [A,B,C,nils,D] [A,B,C,.sl 2 [] none,D]:=inferInstance
abbrev kiA:AV:=.agg 8 [int 2,int 3,int 4,int 5,int 6,int 7,int 8,int 9]
abbrev spA:AV:=.agg 3 [int 1,int 3,int 6]
theorem ki_at {n:Nat}(h:n < 8):([int 2,int 3,int 4,int 5,int 6,int 7,int 8,int 9]:List AV)[n]?=some (int ((n:Int) + 2)):=by
 rcases n with _|_|_|_|_|_|_|_|n
 all_goals first|rfl|omega
theorem sp_at {n:Nat}(h:n < 3):∃ s:Int,(s=1\/s=3\/s=6)/\([int 1,int 3,int 6]:List AV)[n]?=some (int s):=by
 rcases n with _|_|_|n
 ·exact⟨1,.inl rfl,rfl⟩
 ·exact⟨3,.inr (.inl rfl),rfl⟩
 ·exact⟨6,.inr (.inr rfl),rfl⟩
 ·omega
theorem pick_3 (q:Int):0<=pickI q 3/\pickI q 3 < 3:=by
 unfold pickI
 have h:=Int.tmod_lt_of_pos q (b:=3) (by decide)
 have h2:=Int.lt_tmod_of_pos q (b:=3) (by decide)
 rw [Int.tmod_eq_emod_of_nonneg (by omega)]
 omega
abbrev haE (g6 g7 g9:Nat)(p q:Int)(n:Nat):List (Nat × AV):=[(0,int p),(1,int q),(4,boo false),(5,boo true),(6,ptr g6),(7,ptr g7),(8,int (p % 16)),(9,ptr g9),(10,int n)]
abbrev haMm (g6 g7 g9:Nat)(a b:SideX)(I J:IdS):List Av.Piece:=[.var g9 35 spA,.var g7 34 kiA,.var g6 32 (wdA a b I J)]++(tlS I++tlS J)
set_option maxHeartbeats 8000000 in
instance fnCoreHands {p q:Int}:Ans Tryz.prog GL 3 [int p,int q] True (boo true):=⟨fun _=>by
 refine qE Tryz.func3 rfl Tryz.ntmps3 rfl (fun _ hs=>?_)
 repeat' first|refine Zz ?_|intro _
 refine al_callK (args:=[]) [] _ (by rw [hs];exact fnWFresh) (fun u m1 hh=>?_) lpr
 obtain⟨p0,t0,p1,t1,rfl,rfl⟩:=hh
 refine al_rot _ _ ?_
 repeat' first|refine Zz ?_|intro _
 rw [freS_is,freS_is]
 rename_i g6 g7 g9
 refine ac_loop (α:=Nat × IdS × IdS) (fun z=>haE g6 g7 g9 p q z.1) (fun z=>haMm g6 g7 g9 (haS false z.1) (haS true z.1) z.2.1 z.2.2) (fun z=>z.1<=8) (fun z=>8 - z.1) (0,idP p0 t0,idP p1 t1) ⟨rfl,rfl,rfl,rfl,rfl,rfl,rfl,rfl,rfl,trivial⟩ slr (Nat.zero_le _) ?_
 rintro⟨n,I,J⟩ hn
 dsimp only at hn ⊢
 have hO:=haS_ok hn
 by_cases hlt:n < 8
 rotate_left
 ·obtain rfl:n=8:=by omega
  have hd0:=(hO false).d
  have hd1:=(hO true).d
  have hi0:dictOf (haS false 8).d=(haS false 8).d:=hd0.id
  have hi1:dictOf (haS true 8).d=(haS true 8).d:=hd1.id
  have hl0:(haS false 8).d.length<=2000:=hd0.l
  have hl1:(haS true 8).d.length<=2000:=hd1.l
  repeat' first|refine Zz ?_|intro _
  rw [hi0]
  repeat' first|refine Zz ?_|intro _
  rw [ha_e0.1,ha_e0.2]
  repeat' first|refine Zz ?_|intro _
  rw [hi1]
  repeat' first|refine Zz ?_|intro _
  rw [ha_e1.1,ha_e1.2]
  repeat' first|refine Zz ?_|intro _
  rw [hi0]
  repeat' first|refine Zz ?_|intro _
  rw [ha_e2.1,ha_e2.2]
  repeat' first|refine Zz ?_|intro _
  refine reE ?_
  rfl
 obtain hpar|hpar:n % 2=0\/n % 2=1:=by omega
 ·have hI:haI n=false:=dZ (by omega)
  have hm:(n:Int) % 2=0:=by omega
  have hpz:PkB (txK 0 0).x:=⟨by decide,by decide,by decide,by decide,by decide,by decide,by decide,by decide⟩
  repeat' first|refine Zz ?_|intro _
  rw [hm]
  refine al_as 40 (v':=txA (txK 0 0)) (Imp.ofC txK_impC) ?_
  refine al_callK (args:=[wdA (haS false n) (haS true n) I J,stpA ⟨1 - 0,0,0,0,0,0⟩,txA (txK 0 0),nils,repA rep0]) (tlS I++tlS J) _ (by rw [hs];exact spec_args (bs:=[wdA (haS false n) (haS true n) I J,stpA ⟨1 - 0,0,0,0,0,0⟩,txA (txK 0 0),.sl 2 [] none,repA rep0]) (fnWAfter1 (s:=⟨1 - 0,0,0,0,0,0⟩) (z:=txK 0 0) (d:=[]) (r:=rep0) (N:=n) rfl (by omega) (hO true) .nil hpz) (hi:=imp_4)) (fun u m1 hu=>?_) (List.perm_append_comm (l₁:=[_,_,_]))
  obtain⟨J1,rfl,rfl⟩:=hu
  have h1:=ha_ac (n:=n) (z:=txK 0 0) (d:=[]) (r:=rep0) rfl
  rw [hI] at h1
  rw [show aftX (haS true n) (⟨1 - 0,0,0,0,0,0⟩:StpX).t (txK 0 0) [] rep0=haS true (n + 1) from h1]
  refine al_rot _ _ ?_
  have hO1:=haS_ok (n:=n + 1) hlt
  have hE:=ha_up hlt
  rw [hI] at hE
  have hk4:(wTx (haS false n) (haS true (n + 1)) ⟨0,1,0,0,0,0⟩).k=4:=by rw [wt_0];exact tx_k4
  have hEw:doR (haS false n).d (wTx (haS false n) (haS true (n + 1)) ⟨0,1,0,0,0,0⟩) ((haS false n).h + 1) (haS false n).t=((haT false n).d,rep0):=by rw [wt_0];exact hE
  have hA:=ha_au (n:=n) hk4
  rw [hI] at hA
  repeat' first|refine Zz ?_|intro _
  refine al_callK (args:=[wdA (haS false n) (haS true (n + 1)) I J1,stpA ⟨0,1,0,0,0,0⟩]) (tlS I++tlS J1) _ (by rw [hs];exact fnStep0 (N:=n + 1) rfl (by omega) ((hO false).mono (Nat.le_succ n)) (hO1 true) (.inl hk4)) (fun u m1 hu=>?_) (List.perm_append_comm (l₁:=[_,_,_]))
  obtain⟨I1,rfl,rfl⟩:=hu
  rw [hEw,show aftX (haS false n) (⟨0,1,0,0,0,0⟩:StpX).t (wTx (haS false n) (haS true (n + 1)) ⟨0,1,0,0,0,0⟩) (haT false n).d rep0=haT false n from hA]
  refine al_rot _ _ ?_
  repeat' first|refine Zz ?_|intro _
  refine al_idxA n ?_
  refine al_loadE (j:=n) (ki_at hlt) ?_
  repeat' first|refine Zz ?_|intro _
  rename_i g13 g14
  by_cases hk:(n:Int)=p % 16
  ·rw [dT hk]
   have hp3:(1:Int)<=3/\(3:Int)<=1000000:=by decide
   have hq:=pick_3 q
   obtain⟨i3,hi3⟩:∃ i:Nat,pickI q 3=i:=⟨(pickI q 3).toNat,by omega⟩
   obtain⟨sp,hsp,hsp2⟩:=sp_at (n:=i3) (by omega)
   have hT:=haT_ok hlt
   rw [hI] at hT
   have hG:=ha_go (s:=sp) hlt (.inr hsp)
   rw [hI] at hG
   have hX:=ha_tx (s:=sp) hlt
   rw [hI] at hX
   have hXw:(wTx (haT false n) (haS true (n + 1)) ⟨0,(n:Int) + 2,0,0,0,sp⟩).k=(n:Int) + 5:=by rw [wt_0];exact hX
   have hGw:doR (haT false n).d (wTx (haT false n) (haS true (n + 1)) ⟨0,(n:Int) + 2,0,0,0,sp⟩) ((haT false n).h + 1) (haT false n).t=if haB n sp=true then ((haT false n).d,repE 18) else ((haS false (n + 1)).d,rep0):=by rw [wt_0];exact hG
   have hB:=ha_ag (n:=n) (z:=wTx (haT false n) (haS true (n + 1)) ⟨0,(n:Int) + 2,0,0,0,sp⟩) hlt hXw
   rw [hI] at hB
   repeat' first|refine Zz ?_|intro _
   rw [hi3]
   refine al_idxA i3 ?_
   refine al_loadE (j:=i3) hsp2 ?_
   repeat' first|refine Zz ?_|intro _
   refine al_callK (args:=[wdA (haT false n) (haS true (n + 1)) I1 J1,stpA ⟨0,(n:Int) + 2,0,0,0,sp⟩]) (tlS I1++tlS J1) _ (by rw [hs];exact fnStep0 (N:=n + 1) rfl (by omega) (hT.mono (Nat.le_succ n)) (hO1 true) (by unfold KHa;rw [hXw];omega)) (fun u m1 hu=>?_) (List.perm_append_comm (l₁:=[_,_,_,_,_]))
   obtain⟨I2,rfl,rfl⟩:=hu
   rw [hGw]
   refine al_rot _ _ ?_
   by_cases hb:haB n sp=true
   ·have hb2:(¬ n % 4=0)/\¬ (sp=6/\n % 4=3):=by
     unfold haB at hb
     simp at hb
     omega
    rw [if_pos hb]
    by_cases h6:sp=6
    ·subst h6
     have h3:¬ (n:Int) % 4=3:=by omega
     repeat' first|refine Zz ?_|intro _
     rw [dT h3]
     repeat' first|refine Zz ?_|intro _
     refine reE ?_
     rfl
    ·repeat' first|refine Zz ?_|intro _
     refine reE ?_
     rfl
   ·have hb2:n % 4=0\/(sp=6/\n % 4=3):=by
     unfold haB at hb
     simp at hb
     omega
    rw [if_neg hb,show aftX (haT false n) (⟨0,(n:Int) + 2,0,0,0,sp⟩:StpX).t (wTx (haT false n) (haS true (n + 1)) ⟨0,(n:Int) + 2,0,0,0,sp⟩) (haS false (n + 1)).d rep0=haS false (n + 1) from hB]
    by_cases h4:n % 4=0
    ·repeat' first|refine Zz ?_|intro _
     refine ae_round (n + 1,I2,J1) ⟨rfl,rfl,rfl,rfl,rfl,rfl,rfl,rfl,rfl,trivial⟩ ?_ (by show n + 1<=8;omega) (by show 8 - (n + 1) < 8 - n;omega)
     exact sbl
    ·exfalso
     omega
  ·rw [dZ hk]
   have hT:=haT_ok hlt
   rw [hI] at hT
   have hG:=ha_go (s:=0) hlt (.inl rfl)
   rw [hI,haB_0,if_neg (by decide)] at hG
   have hX:=ha_tx (s:=0) hlt
   rw [hI] at hX
   have hXw:(wTx (haT false n) (haS true (n + 1)) ⟨0,(n:Int) + 2,0,0,0,0⟩).k=(n:Int) + 5:=by rw [wt_0];exact hX
   have hGw:doR (haT false n).d (wTx (haT false n) (haS true (n + 1)) ⟨0,(n:Int) + 2,0,0,0,0⟩) ((haT false n).h + 1) (haT false n).t=((haS false (n + 1)).d,rep0):=by rw [wt_0];exact hG
   have hB:=ha_ag (n:=n) (z:=wTx (haT false n) (haS true (n + 1)) ⟨0,(n:Int) + 2,0,0,0,0⟩) hlt hXw
   rw [hI] at hB
   repeat' first|refine Zz ?_|intro _
   refine al_callK (args:=[wdA (haT false n) (haS true (n + 1)) I1 J1,stpA ⟨0,(n:Int) + 2,0,0,0,0⟩]) (tlS I1++tlS J1) _ (by rw [hs];exact fnStep0 (N:=n + 1) rfl (by omega) (hT.mono (Nat.le_succ n)) (hO1 true) (by unfold KHa;rw [hXw];omega)) (fun u m1 hu=>?_) (List.perm_append_comm (l₁:=[_,_,_,_,_]))
   obtain⟨I2,rfl,rfl⟩:=hu
   rw [hGw,show aftX (haT false n) (⟨0,(n:Int) + 2,0,0,0,0⟩:StpX).t (wTx (haT false n) (haS true (n + 1)) ⟨0,(n:Int) + 2,0,0,0,0⟩) (haS false (n + 1)).d rep0=haS false (n + 1) from hB]
   refine al_rot _ _ ?_
   repeat' first|refine Zz ?_|intro _
   refine ae_round (n + 1,I2,J1) ⟨rfl,rfl,rfl,rfl,rfl,rfl,rfl,rfl,rfl,trivial⟩ ?_ (by show n + 1<=8;omega) (by show 8 - (n + 1) < 8 - n;omega)
   exact sbl
 ·have hI:haI n=true:=dT hpar
  have hm:(n:Int) % 2=1:=by omega
  have hpz:PkB (txK 0 0).x:=⟨by decide,by decide,by decide,by decide,by decide,by decide,by decide,by decide⟩
  repeat' first|refine Zz ?_|intro _
  rw [hm]
  refine al_as 40 (v':=txA (txK 0 0)) (Imp.ofC txK_impC) ?_
  refine al_callK (args:=[wdA (haS false n) (haS true n) I J,stpA ⟨1 - 1,0,0,0,0,0⟩,txA (txK 0 0),nils,repA rep0]) (tlS I++tlS J) _ (by rw [hs];exact spec_args (bs:=[wdA (haS false n) (haS true n) I J,stpA ⟨1 - 1,0,0,0,0,0⟩,txA (txK 0 0),.sl 2 [] none,repA rep0]) (fnWAfter0 (s:=⟨1 - 1,0,0,0,0,0⟩) (z:=txK 0 0) (d:=[]) (r:=rep0) (N:=n) rfl (by omega) (hO false) .nil hpz) (hi:=imp_4)) (fun u m1 hu=>?_) (List.perm_append_comm (l₁:=[_,_,_]))
  obtain⟨I1,rfl,rfl⟩:=hu
  have h1:=ha_ac (n:=n) (z:=txK 0 0) (d:=[]) (r:=rep0) rfl
  rw [hI] at h1
  rw [show aftX (haS false n) (⟨1 - 1,0,0,0,0,0⟩:StpX).t (txK 0 0) [] rep0=haS false (n + 1) from h1]
  refine al_rot _ _ ?_
  have hO1:=haS_ok (n:=n + 1) hlt
  have hE:=ha_up hlt
  rw [hI] at hE
  have hk4:(wTx (haS false (n + 1)) (haS true n) ⟨1,1,0,0,0,0⟩).k=4:=by rw [wt_1];exact tx_k4
  have hEw:doR (haS true n).d (wTx (haS false (n + 1)) (haS true n) ⟨1,1,0,0,0,0⟩) ((haS true n).h + 1) (haS true n).t=((haT true n).d,rep0):=by rw [wt_1];exact hE
  have hA:=ha_au (n:=n) hk4
  rw [hI] at hA
  repeat' first|refine Zz ?_|intro _
  refine al_callK (args:=[wdA (haS false (n + 1)) (haS true n) I1 J,stpA ⟨1,1,0,0,0,0⟩]) (tlS I1++tlS J) _ (by rw [hs];exact fnStep1 (N:=n + 1) rfl (by omega) (hO1 false) ((hO true).mono (Nat.le_succ n)) (.inl hk4)) (fun u m1 hu=>?_) (List.perm_append_comm (l₁:=[_,_,_]))
  obtain⟨J1,rfl,rfl⟩:=hu
  rw [hEw,show aftX (haS true n) (⟨1,1,0,0,0,0⟩:StpX).t (wTx (haS false (n + 1)) (haS true n) ⟨1,1,0,0,0,0⟩) (haT true n).d rep0=haT true n from hA]
  refine al_rot _ _ ?_
  repeat' first|refine Zz ?_|intro _
  refine al_idxA n ?_
  refine al_loadE (j:=n) (ki_at hlt) ?_
  repeat' first|refine Zz ?_|intro _
  rename_i g13 g14
  by_cases hk:(n:Int)=p % 16
  ·rw [dT hk]
   have hp3:(1:Int)<=3/\(3:Int)<=1000000:=by decide
   have hq:=pick_3 q
   obtain⟨i3,hi3⟩:∃ i:Nat,pickI q 3=i:=⟨(pickI q 3).toNat,by omega⟩
   obtain⟨sp,hsp,hsp2⟩:=sp_at (n:=i3) (by omega)
   have hT:=haT_ok hlt
   rw [hI] at hT
   have hG:=ha_go (s:=sp) hlt (.inr hsp)
   rw [hI] at hG
   have hX:=ha_tx (s:=sp) hlt
   rw [hI] at hX
   have hXw:(wTx (haS false (n + 1)) (haT true n) ⟨1,(n:Int) + 2,0,0,0,sp⟩).k=(n:Int) + 5:=by rw [wt_1];exact hX
   have hGw:doR (haT true n).d (wTx (haS false (n + 1)) (haT true n) ⟨1,(n:Int) + 2,0,0,0,sp⟩) ((haT true n).h + 1) (haT true n).t=if haB n sp=true then ((haT true n).d,repE 18) else ((haS true (n + 1)).d,rep0):=by rw [wt_1];exact hG
   have hB:=ha_ag (n:=n) (z:=wTx (haS false (n + 1)) (haT true n) ⟨1,(n:Int) + 2,0,0,0,sp⟩) hlt hXw
   rw [hI] at hB
   repeat' first|refine Zz ?_|intro _
   rw [hi3]
   refine al_idxA i3 ?_
   refine al_loadE (j:=i3) hsp2 ?_
   repeat' first|refine Zz ?_|intro _
   refine al_callK (args:=[wdA (haS false (n + 1)) (haT true n) I1 J1,stpA ⟨1,(n:Int) + 2,0,0,0,sp⟩]) (tlS I1++tlS J1) _ (by rw [hs];exact fnStep1 (N:=n + 1) rfl (by omega) (hO1 false) (hT.mono (Nat.le_succ n)) (by unfold KHa;rw [hXw];omega)) (fun u m1 hu=>?_) (List.perm_append_comm (l₁:=[_,_,_,_,_]))
   obtain⟨J2,rfl,rfl⟩:=hu
   rw [hGw]
   refine al_rot _ _ ?_
   by_cases hb:haB n sp=true
   ·have hb2:(¬ n % 4=0)/\¬ (sp=6/\n % 4=3):=by
     unfold haB at hb
     simp at hb
     omega
    rw [if_pos hb]
    by_cases h6:sp=6
    ·subst h6
     have h3:¬ (n:Int) % 4=3:=by omega
     repeat' first|refine Zz ?_|intro _
     rw [dT h3]
     repeat' first|refine Zz ?_|intro _
     refine reE ?_
     rfl
    ·repeat' first|refine Zz ?_|intro _
     refine reE ?_
     rfl
   ·have hb2:n % 4=0\/(sp=6/\n % 4=3):=by
     unfold haB at hb
     simp at hb
     omega
    rw [if_neg hb,show aftX (haT true n) (⟨1,(n:Int) + 2,0,0,0,sp⟩:StpX).t (wTx (haS false (n + 1)) (haT true n) ⟨1,(n:Int) + 2,0,0,0,sp⟩) (haS true (n + 1)).d rep0=haS true (n + 1) from hB]
    obtain rfl:sp=6:=by omega
    have h3:(n:Int) % 4=3:=by omega
    repeat' first|refine Zz ?_|intro _
    rw [dZ (nni h3)]
    repeat' first|refine Zz ?_|intro _
    refine ae_round (n + 1,I1,J2) ⟨rfl,rfl,rfl,rfl,rfl,rfl,rfl,rfl,rfl,trivial⟩ ?_ (by show n + 1<=8;omega) (by show 8 - (n + 1) < 8 - n;omega)
    exact sbl
  ·rw [dZ hk]
   have hT:=haT_ok hlt
   rw [hI] at hT
   have hG:=ha_go (s:=0) hlt (.inl rfl)
   rw [hI,haB_0,if_neg (by decide)] at hG
   have hX:=ha_tx (s:=0) hlt
   rw [hI] at hX
   have hXw:(wTx (haS false (n + 1)) (haT true n) ⟨1,(n:Int) + 2,0,0,0,0⟩).k=(n:Int) + 5:=by rw [wt_1];exact hX
   have hGw:doR (haT true n).d (wTx (haS false (n + 1)) (haT true n) ⟨1,(n:Int) + 2,0,0,0,0⟩) ((haT true n).h + 1) (haT true n).t=((haS true (n + 1)).d,rep0):=by rw [wt_1];exact hG
   have hB:=ha_ag (n:=n) (z:=wTx (haS false (n + 1)) (haT true n) ⟨1,(n:Int) + 2,0,0,0,0⟩) hlt hXw
   rw [hI] at hB
   repeat' first|refine Zz ?_|intro _
   refine al_callK (args:=[wdA (haS false (n + 1)) (haT true n) I1 J1,stpA ⟨1,(n:Int) + 2,0,0,0,0⟩]) (tlS I1++tlS J1) _ (by rw [hs];exact fnStep1 (N:=n + 1) rfl (by omega) (hO1 false) (hT.mono (Nat.le_succ n)) (by unfold KHa;rw [hXw];omega)) (fun u m1 hu=>?_) (List.perm_append_comm (l₁:=[_,_,_,_,_]))
   obtain⟨J2,rfl,rfl⟩:=hu
   rw [hGw,show aftX (haT true n) (⟨1,(n:Int) + 2,0,0,0,0⟩:StpX).t (wTx (haS false (n + 1)) (haT true n) ⟨1,(n:Int) + 2,0,0,0,0⟩) (haS true (n + 1)).d rep0=haS true (n + 1) from hB]
   refine al_rot _ _ ?_
   repeat' first|refine Zz ?_|intro _
   refine ae_round (n + 1,I1,J2) ⟨rfl,rfl,rfl,rfl,rfl,rfl,rfl,rfl,rfl,trivial⟩ ?_ (by show n + 1<=8;omega) (by show 8 - (n + 1) < 8 - n;omega)
   repeat (first|exact List.nil_sublist _|exact List.Sublist.refl _|apply List.Sublist.cons_cons|apply List.Sublist.cons)⟩
end Go.Proofs.YtlkkekpcofjbeaaGreatDoor
