/- law CoreAsks -/
import Derived.Test.YtlmcongmglfaeaaGreatDoorD24
import Derived.Test.YtlmcongmglfaeaaGreatDoorD46
namespace Go.Proofs.YtlmcongmglfaeaaGreatDoor
open Go Go.RowKit Tw Av
attribute [local irreducible] doR
structure AskX where
 i:Int
 h:Int
 t:Int
 k:Int
 d:Bs
 y:Bs
 v:Bs
 o:Bool
abbrev askA (q:AskX):AV:=.agg 8 [int q.i,int q.h,int q.t,int q.k,str q.d,str q.y,str q.v,boo q.o]
set_option maxHeartbeats 1000000 in
theorem fnBegun {f:Bool}:Av.Spec Tryz.prog GL 8 [boo f] [] fun u m=>∃ a b p0 t0 p1 t1,(SOk 0 a/\SOk 0 b)/\u=wdA a b (idP p0 t0) (idP p1 t1)/\m=tlS (idP p0 t0)++tlS (idP p1 t1):=by
 refine qE Tryz.func8 rfl Tryz.ntmps8 rfl (fun _ hs=>?_)
 cases f
 ·repeat' first|refine Zz ?_|intro _
  refine al_callK (args:=[]) [] _ (by rw [hs];exact fnWOpened) (fun u m1 hh=>?_) lpr
  obtain⟨p0,t0,p1,t1,rfl,rfl⟩:=hh
  refine al_rot _ _ ?_
  repeat' first|refine Zz ?_|intro _
  refine reK (tlS (idP p0 t0)++tlS (idP p1 t1)) ⟨_,_,_,_,_,_,⟨opeS_ok false,opeS_ok true⟩,rfl,rfl⟩ ?_
  exact sbl
 ·repeat' first|refine Zz ?_|intro _
  refine al_callK (args:=[]) [] _ (by rw [hs];exact fnWFresh) (fun u m1 hh=>?_) lpr
  obtain⟨p0,t0,p1,t1,rfl,rfl⟩:=hh
  refine al_rot _ _ ?_
  repeat' first|refine Zz ?_|intro _
  refine reK (tlS (idP p0 t0)++tlS (idP p1 t1)) ⟨_,_,_,_,_,_,⟨freS_ok false,freS_ok true⟩,rfl,rfl⟩ ?_
  exact sbl
structure WdX where
 a:SideX
 b:SideX
 I:IdS
 J:IdS
abbrev WdX.A (w:WdX):AV:=wdA w.a w.b w.I w.J
abbrev WdX.M (w:WdX):List Av.Piece:=tlS w.I++tlS w.J
abbrev WdX.Ok (N:Nat)(w:WdX):Prop:=SOk N w.a/\SOk N w.b
section
variable {P:Program} {N:Nat} {ops:Array Oper} {Q:Exit->Act->World->Prop} {rest:List Oper} {s:Av.Base} {e:Av.Env} {m:List Av.Piece} {d:Nat} {ty:TypeId} {pos:String} {af:Array Edge}
theorem ac_up {c:Code}(A V r:List Av.Piece)(h:AC P N c Q s e (A++(V++r))):AC P N c Q s e (V++(A++r)):=AC.mk fun ok w a hS ha=>h.run ok w a (hS.perm (List.perm_append_comm_assoc A V r)) ha
theorem al_ixj {T E:TypeId}[t:TyA P T 3 E 1][tE:Ty P E false 1](j:Nat){x ix:Operand}{a b c r:Bs}(h:AL P N ops Q s rest ((d,str r)::e) m)(hj:j < 3:=by decide)(hr:[str a,str b,str c][j]?=some (str r):=by exact rfl)(hx:Av.ev e x=some (.agg 3 [str a,str b,str c]):=by exact rfl)(hi:Av.ev e ix=some (int (j:Int)):=by exact rfl)(hd:Nat.blt d N=true:=by exact rfl):AL P N ops Q s (⟨some d,.index T x ix,ty,pos,af,none⟩::rest) e m:=
 al_index (k:=1) (n:=3) j h rfl hj hr (fun p hp=>by
  rcases List.mem_cons.1 hp with rfl|hp
  ·rfl
  rcases List.mem_cons.1 hp with rfl|hp
  ·rfl
  ·rw [List.mem_singleton.1 hp]
   rfl) rfl hx hi hd
end
set_option maxRecDepth 100000 in
set_option pp.maxSteps 200000 in
set_option maxHeartbeats 4000000 in
instance fnCoreAsks {f:Bool}{l:List StpX}{q:AskX}{id:Option Value}:Ans Tryz.prog GL 4 [boo f,.sl 6 (l.map stpA) id,askA q] True (boo true):=⟨fun _=>by
 have hlm:(l.map stpA).length=l.length:=llm _
 refine qE Tryz.func4 rfl Tryz.ntmps4 rfl (fun _ hs=>?_)
 repeat' first|refine Zz ?_|intro _
 refine al_callK (args:=[boo f]) [] _ (by rw [hs];exact fnBegun) (fun u m1 hh=>?_) lpr
 obtain⟨a,b,p0,t0,p1,t1,⟨ha,hb⟩,rfl,rfl⟩:=hh
 refine al_rot _ _ ?_
 repeat' first|refine Zz ?_|intro _
 rename_i g5 g8
 refine ac_midB (α:={w:WdX // w.Ok 15}) (fun _=>[(5,ptr g5),(7,boo true),(8,ptr g8)]) (fun w=>[.var g8 33 w.1.A,.var g5 72 (askA q)]++w.1.M) ?_ (fun w=>?_)
 ·refine ac_loop (α:=Nat × WdX) (fun z=>[(1,.sl 6 (l.map stpA) id),(5,ptr g5),(7,boo true),(8,ptr g8),(9,int z.1)]) (fun z=>[.var g8 33 z.2.A,.var g5 72 (askA q)]++z.2.M) (fun z=>z.1<=15/\z.1<=l.length/\z.2.Ok z.1) (fun z=>15 - z.1) (0,⟨a,b,idP p0 t0,idP p1 t1⟩) ⟨rfl,rfl,rfl,rfl,rfl,trivial⟩ slr ⟨Nat.zero_le _,Nat.zero_le _,ha,hb⟩ ?_
  clear ha hb a b p0 t0 p1 t1
  rintro⟨i,⟨a,b,I,J⟩⟩ ⟨h1,h2,ha,hb⟩
  dsimp only at h1 h2 ha hb ⊢
  by_cases hlt:(i:Int) < l.length
  ·by_cases h12:(i:Int) < 15
   ·have hil:i < l.length:=by omega
    have hi:l[i].i % 2=0\/l[i].i % 2=1:=by omega
    rcases hi with hi|hi
    ·have hN:∃ N,N<=1000/\SOk N a/\SOk N b:=⟨i,by omega,ha,hb⟩
     have hXb:=wTx_b (s:=l[i]) (by omega:i<=1000) ha hb
     have hXp:=wTx_pk (s:=l[i]) (by omega:i<=1000) ha hb
     have hda:=ha.d
     have hdb:=hb.d
     have hA:DOk a.d/\TxB (wTx a b l[i]):=⟨hda,hXb⟩
     have hh:0<=a.h/\a.h<=1000000:=by have:=ha.h;have:=ha.hN;omega
     repeat' first|refine Zz ?_|intro _
     rw [hi]
     repeat' first|refine Zz ?_|intro _
     rename_i g10 g11 g12 g14
     refine al_up (tlS I++tlS J) [_,_,_,_,_,_] [] ?_
     refine al_callK (args:=[wdA a b I J,stpA l[i],txA (wTx a b l[i]),.sl 2 ((doR a.d (wTx a b l[i]) (a.h + 1) a.t).1.map entA) none,repA (doR a.d (wTx a b l[i]) (a.h + 1) a.t).2]) (tlS I++tlS J) _ (by rw [hs];exact fnWAfter0 (N:=i) hi (by omega) ha (doR_dok hda) hXp) (fun u m1 hu=>?_) lpr
     obtain⟨I',rfl,rfl⟩:=hu
     refine al_rot (tlS I'++tlS J) _ ?_
     have hO:SOk (i + 1) (aftX a l[i].t (wTx a b l[i]) (doR a.d (wTx a b l[i]) (a.h + 1) a.t).1 (doR a.d (wTx a b l[i]) (a.h + 1) a.t).2):=aftX_ok ha hXp (doR_dok hda) (doR_b _ _ _ _)
     generalize aftX a l[i].t (wTx a b l[i]) (doR a.d (wTx a b l[i]) (a.h + 1) a.t).1 (doR a.d (wTx a b l[i]) (a.h + 1) a.t).2=A at *
     repeat' first|refine Zz ?_|intro _
     refine ae_round (i + 1,⟨A,b,I',J⟩) ⟨rfl,rfl,rfl,rfl,rfl,trivial⟩ ?_ ⟨by show i + 1<=15;omega,by show i + 1<=l.length;omega,hO,hb.mono (Nat.le_succ i)⟩ (by show 15 - (i + 1) < 15 - i;omega)
     exact sbl
    ·have hN:∃ N,N<=1000/\SOk N a/\SOk N b:=⟨i,by omega,ha,hb⟩
     have hXb:=wTx_b (s:=l[i]) (by omega:i<=1000) ha hb
     have hXp:=wTx_pk (s:=l[i]) (by omega:i<=1000) ha hb
     have hda:=ha.d
     have hdb:=hb.d
     have hA:DOk b.d/\TxB (wTx a b l[i]):=⟨hdb,hXb⟩
     have hh:0<=b.h/\b.h<=1000000:=by have:=hb.h;have:=hb.hN;omega
     repeat' first|refine Zz ?_|intro _
     rw [hi]
     repeat' first|refine Zz ?_|intro _
     rename_i g10 g11 g12 g14
     refine al_up (tlS I++tlS J) [_,_,_,_,_,_] [] ?_
     refine al_callK (args:=[wdA a b I J,stpA l[i],txA (wTx a b l[i]),.sl 2 ((doR b.d (wTx a b l[i]) (b.h + 1) b.t).1.map entA) none,repA (doR b.d (wTx a b l[i]) (b.h + 1) b.t).2]) (tlS I++tlS J) _ (by rw [hs];exact fnWAfter1 (N:=i) hi (by omega) hb (doR_dok hdb) hXp) (fun u m1 hu=>?_) lpr
     obtain⟨J',rfl,rfl⟩:=hu
     refine al_rot (tlS I++tlS J') _ ?_
     have hO:SOk (i + 1) (aftX b l[i].t (wTx a b l[i]) (doR b.d (wTx a b l[i]) (b.h + 1) b.t).1 (doR b.d (wTx a b l[i]) (b.h + 1) b.t).2):=aftX_ok hb hXp (doR_dok hdb) (doR_b _ _ _ _)
     generalize aftX b l[i].t (wTx a b l[i]) (doR b.d (wTx a b l[i]) (b.h + 1) b.t).1 (doR b.d (wTx a b l[i]) (b.h + 1) b.t).2=A at *
     repeat' first|refine Zz ?_|intro _
     refine ae_round (i + 1,⟨a,A,I,J'⟩) ⟨rfl,rfl,rfl,rfl,rfl,trivial⟩ ?_ ⟨by show i + 1<=15;omega,by show i + 1<=l.length;omega,ha.mono (Nat.le_succ i),hO⟩ (by show 15 - (i + 1) < 15 - i;omega)
     exact sbl
   ·repeat' first|refine Zz ?_|intro _
    exact ae_cut ⟨⟨a,b,I,J⟩,ha.mono (by omega),hb.mono (by omega)⟩ ⟨rfl,rfl,rfl,trivial⟩ slr
  ·repeat' first|refine Zz ?_|intro _
   exact ae_cut ⟨⟨a,b,I,J⟩,ha.mono (by omega),hb.mono (by omega)⟩ ⟨rfl,rfl,rfl,trivial⟩ slr
 ·obtain⟨⟨a,b,I,J⟩,ha,hb⟩:=w
  dsimp only at ha hb ⊢
  have hN:∃ N,N<=1000/\SOk N a/\SOk N b:=⟨15,by omega,ha,hb⟩
  have hi:q.i % 2=0\/q.i % 2=1:=by omega
  rcases hi with hi|hi
  ·have hDh:=hb.h
   have hD1:=hb.h1
   have hDN:=hb.hN
   have hdd:=ha.d
   have hdl:a.d.length<=2000:=hdd.l
   have hid:dictOf a.d=a.d:=hdd.id
   have hE75:DOk a.d/\([75]:Bs).length<=1000000000:=⟨hdd,by decide⟩
   have hE72:DOk a.d/\([72]:Bs).length<=1000000000:=⟨hdd,by decide⟩
   have hpk:1<=b.h/\b.h<=1000000:=by omega
   have hpl:=pick_lt q.h hpk.1
   repeat' first|refine Zz ?_|intro _
   rw [hi]
   repeat' first|refine Zz ?_|intro _
   rw [hid]
   rename_i g16 g17
   refine ac_mid (α:=Bs) (fun z=>[(5,ptr g5),(7,boo true),(8,ptr g8),(15,int 0),(16,ptr g16),(17,ptr g17),(18,str z)]) (fun _=>[.var g17 61 (dA a.d),.var g16 30 (sdA a I),.var g8 33 (wdA a b I J),.var g5 72 (askA q)]++(tlS I++tlS J)) ?_ (fun z=>?_)
   ·cases hO:q.o
    ·repeat' first|refine Zz ?_|intro _
     exact ae_cut _ ⟨rfl,rfl,rfl,rfl,rfl,rfl,rfl,trivial⟩ slr
    ·repeat' first|refine Zz ?_|intro _
     have h3:=pick_lt q.h (m:=3) (by omega)
     obtain h|h|h:pickI q.h 3=0\/pickI q.h 3=1\/pickI q.h 3=2:=by omega
     ·rw [h]
      apply obl_read [];exact rfl;exact rfl;kernel_rfl;intro _ _
      refine al_ixj 0 ?_
      exact al_nil (ae_got rfl rfl)
      repeat' first|refine Zz ?_|intro _
      exact ae_cut _ ⟨rfl,rfl,rfl,rfl,rfl,rfl,rfl,trivial⟩ slr
     ·rw [h]
      apply obl_read [];exact rfl;exact rfl;kernel_rfl;intro _ _
      refine al_ixj 1 ?_
      exact al_nil (ae_got rfl rfl)
      repeat' first|refine Zz ?_|intro _
      exact ae_cut _ ⟨rfl,rfl,rfl,rfl,rfl,rfl,rfl,trivial⟩ slr
     ·rw [h]
      apply obl_read [];exact rfl;exact rfl;kernel_rfl;intro _ _
      refine al_ixj 2 ?_
      exact al_nil (ae_got rfl rfl)
      repeat' first|refine Zz ?_|intro _
      exact ae_cut _ ⟨rfl,rfl,rfl,rfl,rfl,rfl,rfl,trivial⟩ slr
   ·repeat' first|refine Zz ?_|intro _
    rename_i g19 g21 g23 g25 g27 g29 g31
    obtain⟨j,hj,hjl⟩:∃ j:Nat,pickI q.h b.h=(j:Int)/\j < b.p.length:=⟨(pickI q.h b.h).toNat,by omega,by omega⟩
    rw [hj]
    refine al_mid (α:={c:Bool // c=true->0 < (b.p[j]).length}) (fun c=>[(5,ptr g5),(7,boo true),(8,ptr g8),(15,int 0),(16,ptr g16),(17,ptr g17),(18,str z),(19,ptr g19),(20,boo (clB a.d z)),(21,ptr g21),(22,boo (clB a.d z)),(23,ptr g23),(24,boo (enB a.d [75] z)),(25,ptr g25),(26,boo (enB a.d [75] z)),(27,ptr g27),(28,boo (enB a.d [72] z)),(29,ptr g29),(30,boo (enB a.d [72] z)),(31,ptr g31),(32,int (1 + (j:Int))),(33,str (q.y.take (Int.toNat 20))),(169,boo c.1)]) (fun _=>[.var g31 30 (sdA b J),.var g29 84 (endA (enR a.d [72] z)),.var g27 84 (endA (enR a.d [72] z)),.var g25 84 (endA (enR a.d [75] z)),.var g23 84 (endA (enR a.d [75] z)),.var g21 79 (cliA (clR a.d z)),.var g19 79 (cliA (clR a.d z)),.var g17 61 (dA a.d),.var g16 30 (sdA a I),.var g8 33 (wdA a b I J),.var g5 72 (askA q)]++(tlS I++tlS J)) ?_ (fun c=>?_)
    ·cases hO:q.o
     ·repeat' first|refine Zz ?_|intro _
      exact ae_cut ⟨false,fun h=>by cases h⟩ ⟨rfl,rfl,rfl,rfl,rfl,rfl,rfl,rfl,rfl,rfl,rfl,rfl,rfl,rfl,rfl,rfl,rfl,rfl,rfl,rfl,rfl,rfl,rfl,trivial⟩ slr
     ·repeat' first|refine Zz ?_|intro _
      refine al_idxM (l:=b.p) (f:=dSl) j hjl ?_
      repeat' first|refine Zz ?_|intro _
      refine ae_cut ⟨decide ((0:Int) < ((b.p[j].map entA).length:Nat)),fun h=>by have h:=of_decide_eq_true h;rw [llm] at h;omega⟩ ⟨rfl,rfl,rfl,rfl,rfl,rfl,rfl,rfl,rfl,rfl,rfl,rfl,rfl,rfl,rfl,rfl,rfl,rfl,rfl,rfl,rfl,rfl,rfl,trivial⟩ ?_
      exact sbl
    ·have hpj:(b.p[j]).length<=1000000:=by
      have:=(hb.p _ (List.getElem_mem hjl)).l
      omega
     have hmj:((b.p[j]).map entA).length=(b.p[j]).length:=llm _
     refine ac_up [_,_] [_,_,_,_,_,_,_] _ ?_
     refine ac_up [_] [_,_,_,_,_,_,_,_,_,_] _ ?_
     refine ac_mid (α:=Bs) (fun y=>[(5,ptr g5),(7,boo true),(8,ptr g8),(15,int 0),(16,ptr g16),(17,ptr g17),(18,str z),(19,ptr g19),(20,boo (clB a.d z)),(21,ptr g21),(22,boo (clB a.d z)),(23,ptr g23),(24,boo (enB a.d [75] z)),(25,ptr g25),(26,boo (enB a.d [75] z)),(27,ptr g27),(28,boo (enB a.d [72] z)),(29,ptr g29),(30,boo (enB a.d [72] z)),(31,ptr g31),(32,int (1 + (j:Int))),(33,str y)]) (fun _=>[.var g5 72 (askA q),.var g17 61 (dA a.d),.var g16 30 (sdA a I),.var g31 30 (sdA b J),.var g29 84 (endA (enR a.d [72] z)),.var g27 84 (endA (enR a.d [72] z)),.var g25 84 (endA (enR a.d [75] z)),.var g23 84 (endA (enR a.d [75] z)),.var g21 79 (cliA (clR a.d z)),.var g19 79 (cliA (clR a.d z)),.var g8 33 (wdA a b I J)]++(tlS I++tlS J)) ?_ (fun y=>?_)
     ·obtain⟨c,hc⟩:=c
      cases c
      ·repeat' first|refine Zz ?_|intro _
       exact ae_cut _ ⟨rfl,rfl,rfl,rfl,rfl,rfl,rfl,rfl,rfl,rfl,rfl,rfl,rfl,rfl,rfl,rfl,rfl,rfl,rfl,rfl,rfl,rfl,trivial⟩ slr
      ·repeat' first|refine Zz ?_|intro _
       apply obl_read [];exact rfl;exact rfl;kernel_rfl;intro _ _
       refine al_idxM (l:=b.p) (f:=dSl) j hjl ?_
       exact al_nil (ae_got rfl rfl)
       repeat' first|refine Zz ?_|intro _
       apply obl_read [];exact rfl;exact rfl;kernel_rfl;intro _ _
       refine al_idxM (l:=b.p) (f:=dSl) j hjl ?_
       exact al_nil (ae_got rfl rfl)
       have hc2:=hc rfl
       have hpq:1<=(((b.p[j]).map entA).length:Int)/\(((b.p[j]).map entA).length:Int)<=1000000:=by rw [hmj];omega
       have hpl2:=pick_lt q.t hpq.1
       repeat' first|refine Zz ?_|intro _
       obtain⟨k,hk,hkl⟩:∃ k:Nat,pickI q.t (((b.p[j]).map entA).length:Int)=(k:Int)/\k < (b.p[j]).length:=⟨(pickI q.t (((b.p[j]).map entA).length:Int)).toNat,by omega,by omega⟩
       rw [hk]
       apply obl_read [];exact rfl;exact rfl;kernel_rfl;intro _ _
       refine al_idxM (l:=b.p[j]) (f:=entA) k hkl ?_
       exact al_nil (ae_got rfl rfl)
       repeat' first|refine Zz ?_|intro _
       refine ae_cut _ ⟨rfl,rfl,rfl,rfl,rfl,rfl,rfl,rfl,rfl,rfl,rfl,rfl,rfl,rfl,rfl,rfl,rfl,rfl,rfl,rfl,rfl,rfl,trivial⟩ ?_
       exact sbl
     ·have hS6:AV.agg 6 [int 0,int q.k,int 0,int 0,int 0,int 0]=stpA ⟨0,q.k,0,0,0,0⟩:=rfl
      obtain⟨S,hS6⟩:∃ S:StpX,AV.agg 6 [int 0,int q.k,int 0,int 0,int 0,int 0]=stpA S:=⟨_,hS6⟩
      have hXb:=wTx_b (s:=S) (by omega:15<=1000) ha hb
      have hm1:=hXb.fm
      have hm2:=hXb.gm
      have hCp:DOk a.d/\(wTx a b S).f.m<=9223372036854775807:=⟨hdd,hm1⟩
      have hCg:DOk a.d/\(wTx a b S).g.a.m<=9223372036854775807/\(wTx a b S).g.b.m<=9223372036854775807:=⟨hdd,hm2⟩
      repeat' first|refine Zz ?_|intro _
      refine al_as 193 (v':=stpA S) (by rw [<- hS6];exact fun _ _ _ h=>h) ?_
      refine al_callP hN ?_
      repeat' first|refine Zz ?_|intro _
      apply obl_read [];exact rfl;exact rfl;kernel_rfl;intro _ _
      refine al_ix0 ?_
      exact al_nil (ae_got rfl rfl)
      repeat' first|refine Zz ?_|intro _
      apply obl_read [];exact rfl;exact rfl;kernel_rfl;intro _ _
      refine al_ix0 ?_
      exact al_nil (ae_got rfl rfl)
      repeat' first|refine Zz ?_|intro _
      apply obl_read [];exact rfl;exact rfl;kernel_rfl;intro _ _
      refine al_ix0 ?_
      exact al_nil (ae_got rfl rfl)
      repeat' first|refine Zz ?_|intro _
      apply obl_writeN [22];exact rfl;exact rfl;kernel_rfl
      ·intro _ _
       refine al_store ?_
       exact al_nil (ae_gotN rfl)
      ·exact rfl
      ·exact rfl
      repeat' (first|refine ct1 ?_|refine op1 ?_|refine opL ?_|refine op2 ?_|refine ob1 ?_|refine ob4 ?_|refine ob2 (fun _=>?_)|intro _)
      refine ac_mid (α:=Nat × Nat × Sta × Int) (fun e=>[(7,boo true),(16,ptr g16),(17,ptr g17),(18,str z),(19,ptr g19),(20,boo (clB a.d z)),(21,ptr g21),(22,boo (clB a.d z)),(23,ptr g23),(24,boo (enB a.d [75] z)),(25,ptr g25),(26,boo (enB a.d [75] z)),(27,ptr g27),(28,boo (enB a.d [72] z)),(29,ptr g29),(30,boo (enB a.d [72] z)),(35,boo true),(36,ptr e.1),(37,int e.2.2.2),(38,ptr e.2.1),(39,int e.2.2.2)]) (fun e=>[.var g17 61 (dA a.d),.var g16 30 (sdA a I),.var g29 84 (endA (enR a.d [72] z)),.var g27 84 (endA (enR a.d [72] z)),.var g25 84 (endA (enR a.d [75] z)),.var g23 84 (endA (enR a.d [75] z)),.var g21 79 (cliA (clR a.d z)),.var g19 79 (cliA (clR a.d z)),.var e.1 93 (staA e.2.2.1),.var e.2.1 93 (staA e.2.2.1)]) ?_ (fun e=>?_)
      ·repeat' first|refine Zz ?_|intro _
       apply obl_read [];exact rfl;exact rfl;kernel_rfl;intro _ _
       refine al_ix0 ?_
       exact al_nil (ae_got rfl rfl)
       repeat' first|refine Zz ?_|intro _
       apply obl_writeN [23];exact rfl;exact rfl;kernel_rfl
       ·intro _ _
        refine al_store ?_
        exact al_nil (ae_gotN rfl)
       ·exact rfl
       ·exact rfl
       repeat' first|refine Zz ?_|intro _
       rename_i g34 g36 g38
       refine ae_cut (⟨g36,g38,goR a.d (nmK false) (1 + (j:Int)) q.t y (wTx a b S).g,goE a.d (nmK false) (1 + (j:Int)) q.t y (wTx a b S).g⟩:Nat × Nat × Sta × Int) ⟨rfl,rfl,rfl,rfl,rfl,rfl,rfl,rfl,rfl,rfl,rfl,rfl,rfl,rfl,rfl,rfl,rfl,rfl,rfl,rfl,rfl,trivial⟩ ?_
       exact sbl
      ·obtain⟨g36,g38,G,E⟩:=e
       dsimp only
       generalize clR a.d z=Cl
       generalize clB a.d z=b1
       generalize enR a.d [75] z=K1
       generalize enB a.d [75] z=b2
       generalize enR a.d [72] z=K2
       generalize enB a.d [72] z=b3
       repeat' (first|refine Za ?_|refine ob2 (fun _=>?_)|intro _|fail)
       rw [dT (rfl:(((Cl.l.map staA).length:Nat):Int)=(((Cl.l.map staA).length:Nat):Int))]
       repeat' (first|refine Za ?_|refine ob2 (fun _=>?_)|intro _|fail)
       rw [dT (rfl:Cl.c=Cl.c)]
       repeat' (first|refine Za ?_|refine ob2 (fun _=>?_)|intro _|fail)
       rw [dT (rfl:b1=b1)]
       repeat' (first|refine Za ?_|refine ob2 (fun _=>?_)|intro _|fail)
       rw [show (decide (K1.s=K1.s) && (decide (K1.o=K1.o) && (decide (K1.q=K1.q) && (decide (K1.p=K1.p) && true))))=true by simp]
       repeat' (first|refine Za ?_|refine ob2 (fun _=>?_)|intro _|fail)
       rw [dT (rfl:b2=b2)]
       repeat' (first|refine Za ?_|refine ob2 (fun _=>?_)|intro _|fail)
       rw [show (decide (K2.s=K2.s) && (decide (K2.o=K2.o) && (decide (K2.q=K2.q) && (decide (K2.p=K2.p) && true))))=true by simp]
       repeat' (first|refine Za ?_|refine ob2 (fun _=>?_)|intro _|fail)
       rw [dT (rfl:b3=b3)]
       repeat' (first|refine Za ?_|refine ob2 (fun _=>?_)|intro _|fail)
       generalize nxR a.d z=X
       rw [dT (rfl:X=X)]
       repeat' (first|refine Za ?_|refine ob2 (fun _=>?_)|intro _|fail)
       apply obl_read [8];exact rfl;exact rfl;kernel_rfl
       ·intro _ _
        refine al_on ?_
        refine al_load ?_
        exact al_nil (ae_got rfl rfl)
       apply obl_read [9];exact rfl;exact rfl;kernel_rfl
       ·intro _ _
        refine al_on ?_
        refine al_load ?_
        exact al_nil (ae_got rfl rfl)
       repeat' (first|refine Za ?_|refine ob2 (fun _=>?_)|intro _|fail)
       rw [show (decide (G.h=G.h) && (decide (G.t=G.t) && (decide (G.r=G.r) && true)))=true by simp]
       repeat' (first|refine Za ?_|refine ob2 (fun _=>?_)|intro _|fail)
       rw [dT (rfl:E=E)]
       repeat' (first|refine Za ?_|refine ob2 (fun _=>?_)|intro _|fail)
       refine reE ?_
       rfl
  ·have hDh:=ha.h
   have hD1:=ha.h1
   have hDN:=ha.hN
   have hdd:=hb.d
   have hdl:b.d.length<=2000:=hdd.l
   have hid:dictOf b.d=b.d:=hdd.id
   have hE75:DOk b.d/\([75]:Bs).length<=1000000000:=⟨hdd,by decide⟩
   have hE72:DOk b.d/\([72]:Bs).length<=1000000000:=⟨hdd,by decide⟩
   have hpk:1<=a.h/\a.h<=1000000:=by omega
   have hpl:=pick_lt q.h hpk.1
   repeat' first|refine Zz ?_|intro _
   rw [hi]
   repeat' first|refine Zz ?_|intro _
   rw [hid]
   rename_i g16 g17
   refine ac_mid (α:=Bs) (fun z=>[(5,ptr g5),(7,boo true),(8,ptr g8),(15,int 1),(16,ptr g16),(17,ptr g17),(18,str z)]) (fun _=>[.var g17 61 (dA b.d),.var g16 30 (sdA b J),.var g8 33 (wdA a b I J),.var g5 72 (askA q)]++(tlS I++tlS J)) ?_ (fun z=>?_)
   ·cases hO:q.o
    ·repeat' first|refine Zz ?_|intro _
     exact ae_cut _ ⟨rfl,rfl,rfl,rfl,rfl,rfl,rfl,trivial⟩ slr
    ·repeat' first|refine Zz ?_|intro _
     have h3:=pick_lt q.h (m:=3) (by omega)
     obtain h|h|h:pickI q.h 3=0\/pickI q.h 3=1\/pickI q.h 3=2:=by omega
     ·rw [h]
      apply obl_read [];exact rfl;exact rfl;kernel_rfl;intro _ _
      refine al_ixj 0 ?_
      exact al_nil (ae_got rfl rfl)
      repeat' first|refine Zz ?_|intro _
      exact ae_cut _ ⟨rfl,rfl,rfl,rfl,rfl,rfl,rfl,trivial⟩ slr
     ·rw [h]
      apply obl_read [];exact rfl;exact rfl;kernel_rfl;intro _ _
      refine al_ixj 1 ?_
      exact al_nil (ae_got rfl rfl)
      repeat' first|refine Zz ?_|intro _
      exact ae_cut _ ⟨rfl,rfl,rfl,rfl,rfl,rfl,rfl,trivial⟩ slr
     ·rw [h]
      apply obl_read [];exact rfl;exact rfl;kernel_rfl;intro _ _
      refine al_ixj 2 ?_
      exact al_nil (ae_got rfl rfl)
      repeat' first|refine Zz ?_|intro _
      exact ae_cut _ ⟨rfl,rfl,rfl,rfl,rfl,rfl,rfl,trivial⟩ slr
   ·repeat' first|refine Zz ?_|intro _
    rename_i g19 g21 g23 g25 g27 g29 g31
    obtain⟨j,hj,hjl⟩:∃ j:Nat,pickI q.h a.h=(j:Int)/\j < a.p.length:=⟨(pickI q.h a.h).toNat,by omega,by omega⟩
    rw [hj]
    refine al_mid (α:={c:Bool // c=true->0 < (a.p[j]).length}) (fun c=>[(5,ptr g5),(7,boo true),(8,ptr g8),(15,int 1),(16,ptr g16),(17,ptr g17),(18,str z),(19,ptr g19),(20,boo (clB b.d z)),(21,ptr g21),(22,boo (clB b.d z)),(23,ptr g23),(24,boo (enB b.d [75] z)),(25,ptr g25),(26,boo (enB b.d [75] z)),(27,ptr g27),(28,boo (enB b.d [72] z)),(29,ptr g29),(30,boo (enB b.d [72] z)),(31,ptr g31),(32,int (1 + (j:Int))),(33,str (q.y.take (Int.toNat 20))),(169,boo c.1)]) (fun _=>[.var g31 30 (sdA a I),.var g29 84 (endA (enR b.d [72] z)),.var g27 84 (endA (enR b.d [72] z)),.var g25 84 (endA (enR b.d [75] z)),.var g23 84 (endA (enR b.d [75] z)),.var g21 79 (cliA (clR b.d z)),.var g19 79 (cliA (clR b.d z)),.var g17 61 (dA b.d),.var g16 30 (sdA b J),.var g8 33 (wdA a b I J),.var g5 72 (askA q)]++(tlS I++tlS J)) ?_ (fun c=>?_)
    ·cases hO:q.o
     ·repeat' first|refine Zz ?_|intro _
      exact ae_cut ⟨false,fun h=>by cases h⟩ ⟨rfl,rfl,rfl,rfl,rfl,rfl,rfl,rfl,rfl,rfl,rfl,rfl,rfl,rfl,rfl,rfl,rfl,rfl,rfl,rfl,rfl,rfl,rfl,trivial⟩ slr
     ·repeat' first|refine Zz ?_|intro _
      refine al_idxM (l:=a.p) (f:=dSl) j hjl ?_
      repeat' first|refine Zz ?_|intro _
      refine ae_cut ⟨decide ((0:Int) < ((a.p[j].map entA).length:Nat)),fun h=>by have h:=of_decide_eq_true h;rw [llm] at h;omega⟩ ⟨rfl,rfl,rfl,rfl,rfl,rfl,rfl,rfl,rfl,rfl,rfl,rfl,rfl,rfl,rfl,rfl,rfl,rfl,rfl,rfl,rfl,rfl,rfl,trivial⟩ ?_
      exact sbl
    ·have hpj:(a.p[j]).length<=1000000:=by
      have:=(ha.p _ (List.getElem_mem hjl)).l
      omega
     have hmj:((a.p[j]).map entA).length=(a.p[j]).length:=llm _
     refine ac_up [_,_] [_,_,_,_,_,_,_] _ ?_
     refine ac_up [_] [_,_,_,_,_,_,_,_,_,_] _ ?_
     refine ac_mid (α:=Bs) (fun y=>[(5,ptr g5),(7,boo true),(8,ptr g8),(15,int 1),(16,ptr g16),(17,ptr g17),(18,str z),(19,ptr g19),(20,boo (clB b.d z)),(21,ptr g21),(22,boo (clB b.d z)),(23,ptr g23),(24,boo (enB b.d [75] z)),(25,ptr g25),(26,boo (enB b.d [75] z)),(27,ptr g27),(28,boo (enB b.d [72] z)),(29,ptr g29),(30,boo (enB b.d [72] z)),(31,ptr g31),(32,int (1 + (j:Int))),(33,str y)]) (fun _=>[.var g5 72 (askA q),.var g17 61 (dA b.d),.var g16 30 (sdA b J),.var g31 30 (sdA a I),.var g29 84 (endA (enR b.d [72] z)),.var g27 84 (endA (enR b.d [72] z)),.var g25 84 (endA (enR b.d [75] z)),.var g23 84 (endA (enR b.d [75] z)),.var g21 79 (cliA (clR b.d z)),.var g19 79 (cliA (clR b.d z)),.var g8 33 (wdA a b I J)]++(tlS I++tlS J)) ?_ (fun y=>?_)
     ·obtain⟨c,hc⟩:=c
      cases c
      ·repeat' first|refine Zz ?_|intro _
       exact ae_cut _ ⟨rfl,rfl,rfl,rfl,rfl,rfl,rfl,rfl,rfl,rfl,rfl,rfl,rfl,rfl,rfl,rfl,rfl,rfl,rfl,rfl,rfl,rfl,trivial⟩ slr
      ·repeat' first|refine Zz ?_|intro _
       apply obl_read [];exact rfl;exact rfl;kernel_rfl;intro _ _
       refine al_idxM (l:=a.p) (f:=dSl) j hjl ?_
       exact al_nil (ae_got rfl rfl)
       repeat' first|refine Zz ?_|intro _
       apply obl_read [];exact rfl;exact rfl;kernel_rfl;intro _ _
       refine al_idxM (l:=a.p) (f:=dSl) j hjl ?_
       exact al_nil (ae_got rfl rfl)
       have hc2:=hc rfl
       have hpq:1<=(((a.p[j]).map entA).length:Int)/\(((a.p[j]).map entA).length:Int)<=1000000:=by rw [hmj];omega
       have hpl2:=pick_lt q.t hpq.1
       repeat' first|refine Zz ?_|intro _
       obtain⟨k,hk,hkl⟩:∃ k:Nat,pickI q.t (((a.p[j]).map entA).length:Int)=(k:Int)/\k < (a.p[j]).length:=⟨(pickI q.t (((a.p[j]).map entA).length:Int)).toNat,by omega,by omega⟩
       rw [hk]
       apply obl_read [];exact rfl;exact rfl;kernel_rfl;intro _ _
       refine al_idxM (l:=a.p[j]) (f:=entA) k hkl ?_
       exact al_nil (ae_got rfl rfl)
       repeat' first|refine Zz ?_|intro _
       refine ae_cut _ ⟨rfl,rfl,rfl,rfl,rfl,rfl,rfl,rfl,rfl,rfl,rfl,rfl,rfl,rfl,rfl,rfl,rfl,rfl,rfl,rfl,rfl,rfl,trivial⟩ ?_
       exact sbl
     ·have hS6:AV.agg 6 [int 1,int q.k,int 0,int 0,int 0,int 0]=stpA ⟨1,q.k,0,0,0,0⟩:=rfl
      obtain⟨S,hS6⟩:∃ S:StpX,AV.agg 6 [int 1,int q.k,int 0,int 0,int 0,int 0]=stpA S:=⟨_,hS6⟩
      have hXb:=wTx_b (s:=S) (by omega:15<=1000) ha hb
      have hm1:=hXb.fm
      have hm2:=hXb.gm
      have hCp:DOk b.d/\(wTx a b S).f.m<=9223372036854775807:=⟨hdd,hm1⟩
      have hCg:DOk b.d/\(wTx a b S).g.a.m<=9223372036854775807/\(wTx a b S).g.b.m<=9223372036854775807:=⟨hdd,hm2⟩
      repeat' first|refine Zz ?_|intro _
      refine al_as 193 (v':=stpA S) (by rw [<- hS6];exact fun _ _ _ h=>h) ?_
      refine al_callP hN ?_
      repeat' first|refine Zz ?_|intro _
      apply obl_read [];exact rfl;exact rfl;kernel_rfl;intro _ _
      refine al_ix0 ?_
      exact al_nil (ae_got rfl rfl)
      repeat' first|refine Zz ?_|intro _
      apply obl_read [];exact rfl;exact rfl;kernel_rfl;intro _ _
      refine al_ix0 ?_
      exact al_nil (ae_got rfl rfl)
      repeat' first|refine Zz ?_|intro _
      apply obl_read [];exact rfl;exact rfl;kernel_rfl;intro _ _
      refine al_ix0 ?_
      exact al_nil (ae_got rfl rfl)
      repeat' first|refine Zz ?_|intro _
      apply obl_writeN [22];exact rfl;exact rfl;kernel_rfl
      ·intro _ _
       refine al_store ?_
       exact al_nil (ae_gotN rfl)
      ·exact rfl
      ·exact rfl
      repeat' (first|refine ct1 ?_|refine op1 ?_|refine opL ?_|refine op2 ?_|refine ob1 ?_|refine ob4 ?_|refine ob2 (fun _=>?_)|intro _)
      refine ac_mid (α:=Nat × Nat × Sta × Int) (fun e=>[(7,boo true),(16,ptr g16),(17,ptr g17),(18,str z),(19,ptr g19),(20,boo (clB b.d z)),(21,ptr g21),(22,boo (clB b.d z)),(23,ptr g23),(24,boo (enB b.d [75] z)),(25,ptr g25),(26,boo (enB b.d [75] z)),(27,ptr g27),(28,boo (enB b.d [72] z)),(29,ptr g29),(30,boo (enB b.d [72] z)),(35,boo true),(36,ptr e.1),(37,int e.2.2.2),(38,ptr e.2.1),(39,int e.2.2.2)]) (fun e=>[.var g17 61 (dA b.d),.var g16 30 (sdA b J),.var g29 84 (endA (enR b.d [72] z)),.var g27 84 (endA (enR b.d [72] z)),.var g25 84 (endA (enR b.d [75] z)),.var g23 84 (endA (enR b.d [75] z)),.var g21 79 (cliA (clR b.d z)),.var g19 79 (cliA (clR b.d z)),.var e.1 93 (staA e.2.2.1),.var e.2.1 93 (staA e.2.2.1)]) ?_ (fun e=>?_)
      ·repeat' first|refine Zz ?_|intro _
       apply obl_read [];exact rfl;exact rfl;kernel_rfl;intro _ _
       refine al_ix0 ?_
       exact al_nil (ae_got rfl rfl)
       repeat' first|refine Zz ?_|intro _
       apply obl_writeN [23];exact rfl;exact rfl;kernel_rfl
       ·intro _ _
        refine al_store ?_
        exact al_nil (ae_gotN rfl)
       ·exact rfl
       ·exact rfl
       repeat' first|refine Zz ?_|intro _
       rename_i g34 g36 g38
       refine ae_cut (⟨g36,g38,goR b.d (nmK true) (1 + (j:Int)) q.t y (wTx a b S).g,goE b.d (nmK true) (1 + (j:Int)) q.t y (wTx a b S).g⟩:Nat × Nat × Sta × Int) ⟨rfl,rfl,rfl,rfl,rfl,rfl,rfl,rfl,rfl,rfl,rfl,rfl,rfl,rfl,rfl,rfl,rfl,rfl,rfl,rfl,rfl,trivial⟩ ?_
       exact sbl
      ·obtain⟨g36,g38,G,E⟩:=e
       dsimp only
       generalize clR b.d z=Cl
       generalize clB b.d z=b1
       generalize enR b.d [75] z=K1
       generalize enB b.d [75] z=b2
       generalize enR b.d [72] z=K2
       generalize enB b.d [72] z=b3
       repeat' (first|refine Za ?_|refine ob2 (fun _=>?_)|intro _|fail)
       rw [dT (rfl:(((Cl.l.map staA).length:Nat):Int)=(((Cl.l.map staA).length:Nat):Int))]
       repeat' (first|refine Za ?_|refine ob2 (fun _=>?_)|intro _|fail)
       rw [dT (rfl:Cl.c=Cl.c)]
       repeat' (first|refine Za ?_|refine ob2 (fun _=>?_)|intro _|fail)
       rw [dT (rfl:b1=b1)]
       repeat' (first|refine Za ?_|refine ob2 (fun _=>?_)|intro _|fail)
       rw [show (decide (K1.s=K1.s) && (decide (K1.o=K1.o) && (decide (K1.q=K1.q) && (decide (K1.p=K1.p) && true))))=true by simp]
       repeat' (first|refine Za ?_|refine ob2 (fun _=>?_)|intro _|fail)
       rw [dT (rfl:b2=b2)]
       repeat' (first|refine Za ?_|refine ob2 (fun _=>?_)|intro _|fail)
       rw [show (decide (K2.s=K2.s) && (decide (K2.o=K2.o) && (decide (K2.q=K2.q) && (decide (K2.p=K2.p) && true))))=true by simp]
       repeat' (first|refine Za ?_|refine ob2 (fun _=>?_)|intro _|fail)
       rw [dT (rfl:b3=b3)]
       repeat' (first|refine Za ?_|refine ob2 (fun _=>?_)|intro _|fail)
       generalize nxR b.d z=X
       rw [dT (rfl:X=X)]
       repeat' (first|refine Za ?_|refine ob2 (fun _=>?_)|intro _|fail)
       apply obl_read [8];exact rfl;exact rfl;kernel_rfl
       ·intro _ _
        refine al_on ?_
        refine al_load ?_
        exact al_nil (ae_got rfl rfl)
       apply obl_read [9];exact rfl;exact rfl;kernel_rfl
       ·intro _ _
        refine al_on ?_
        refine al_load ?_
        exact al_nil (ae_got rfl rfl)
       repeat' (first|refine Za ?_|refine ob2 (fun _=>?_)|intro _|fail)
       rw [show (decide (G.h=G.h) && (decide (G.t=G.t) && (decide (G.r=G.r) && true)))=true by simp]
       repeat' (first|refine Za ?_|refine ob2 (fun _=>?_)|intro _|fail)
       rw [dT (rfl:E=E)]
       repeat' (first|refine Za ?_|refine ob2 (fun _=>?_)|intro _|fail)
       refine reE ?_
       rfl⟩
abbrev StpZ:=Int × Int × Int × Int × Int × Int × Unit
theorem coreAsks_in {f o:Bool}{l:List StpZ}{i h t k:Int}{d y v:Bs} :
  SpecE Tryz.prog GL 4 [boo f,.sl 6 (l.map fun z=>AV.agg 6 [int z.1,int z.2.1,int z.2.2.1,int z.2.2.2.1,int z.2.2.2.2.1,int z.2.2.2.2.2.1]) none,.agg 8 [int i,int h,int t,int k,str d,str y,str v,boo o]] (boo true):=by
 have e:(l.map fun z=>AV.agg 6 [int z.1,int z.2.1,int z.2.2.1,int z.2.2.2.1,int z.2.2.2.2.1,int z.2.2.2.2.2.1])=(l.map fun z=>(⟨z.1,z.2.1,z.2.2.1,z.2.2.2.1,z.2.2.2.2.1,z.2.2.2.2.2.1⟩:StpX)).map stpA:=by
  rw [List.map_map]
  rfl
 rw [e]
 exact (fnCoreAsks (q:=⟨i,h,t,k,d,y,v,o⟩)).spec trivial
end Go.Proofs.YtlmcongmglfaeaaGreatDoor
