/- packets, walked: bytes, answers, limits -/
import Derived.Test.YtndhpgclmgpmoaaGreatDoorA26
import Derived.Test.YtndhpgclmgpmoaaGreatDoorA35
import Derived.Test.YtndhpgclmgpmoaaGreatDoorA38
import Derived.Test.YtndhpgclmgpmoaaGreatDoorA39
namespace Go.Proofs.YtndhpgclmgpmoaaGreatDoor
open Go Go.RowKit Tw Av
theorem aed_noGotoR {N:Nat}{Q:Exit->Act->World->Prop}{s:Av.Base}{e:Av.Env}{m:List Av.Piece}{ds:List Deferred}(h:AED N ds .ret Q s e m):AED N ds .ret (Exit.noGoto Q) s e m:=h
theorem bc_condN {P:Program}{N L:Nat}{Q:Exit->Act->World->Prop}{s:Av.Base}{e:Av.Env}{m:List Av.Piece}{c:Operand}{x y:Code}{b:Bool}(hc:Av.ev e c=some (.lit (.bool (!b))))(h1:b=true->BC P N L y Q s e m)(h2:b=false->BC P N L x Q s e m):BC P N L (.cond c x y) Q s e m:=by
 cases b
 ·exact bc_condT (h2 rfl) hc
 ·exact bc_condF (h1 rfl) hc
theorem inBlock_at {Q:Exit->Act->World->Prop}{id:Nat}{a:Act}{w:World}(h:Q .normal a w):Exit.inBlock id Q (.exit id) a w:=by
 simp only [Exit.inBlock,if_true]
 exact h
theorem ixS_47 {s:Bs}:ixS (47::s)=0:=by
 unfold ixS
 rw [List.findIdx_cons]
 rfl
theorem ixS_cons {c:UInt8}{s:Bs}(h:c≠47):ixS (c::s)=ixS s + 1:=by
 unfold ixS
 rw [List.findIdx_cons,dZ h]
 rfl
theorem splS_ix:∀ {s:Bs},ixS s < s.length->splS s=s.take (ixS s)::splS (s.drop (ixS s + 1))
 | [],h=>by simp at h
 | c::s,h=>by
  by_cases hc:c=47
  ·subst hc
   rw [ixS_47,splS,if_pos rfl]
   rfl
  ·rw [ixS_cons hc] at h ⊢
   rw [splS,if_neg hc,splS_ix (s:=s) (by simpa using h)]
   rfl
theorem splS_no:∀ {s:Bs},¬ ixS s < s.length->splS s=[s]
 | [],_=>rfl
 | c::s,h=>by
  by_cases hc:c=47
  ·subst hc
   rw [ixS_47] at h
   simp at h
  ·rw [ixS_cons hc] at h
   rw [splS,if_neg hc,splS_no (s:=s) (by simpa using h)]
   rfl
abbrev cSeq (gs gp gv:Nat)(s:Bs):List Av.Piece:=[.var gv 3 (int 0),.var gp 9 (str [47]),.var gs 9 (str s)]
theorem splitSeq_spec {s:Bs}:Av.Spec Tryz.prog GL 310 [str s,str [47]] [] fun u m=>∃ gs gp gv,u=fnv 402 [.pointer (some ⟨gp,0,none⟩),.pointer (some ⟨gs,0,none⟩),.pointer (some ⟨gv,0,none⟩)]/\m=cSeq gs gp gv s:=by
 have h1:Av.Spec Tryz.prog GL 368 [str s,str [47],int 0] [] fun u m=>∃ gs gp gv,u=fnv 402 [.pointer (some ⟨gp,0,none⟩),.pointer (some ⟨gs,0,none⟩),.pointer (some ⟨gv,0,none⟩)]/\m=cSeq gs gp gv s:=by
  refine qE Tryz.func368 rfl Tryz.ntmps368 rfl (fun _ hs=>?_)
  repeat' first|refine Vz ?_|intro _
  rename_i gs gp gv
  refine al_makeFunc (vs:=[.pointer (some ⟨gp,0,none⟩),.pointer (some ⟨gs,0,none⟩),.pointer (some ⟨gv,0,none⟩)]) ?_
  repeat' first|refine Vz ?_|intro _
  refine reK _ ⟨gs,gp,gv,rfl,rfl⟩ ?_
  exact List.Sublist.refl _
 refine qE Tryz.func310 rfl Tryz.ntmps310 rfl (fun _ hs=>?_)
 repeat' first|refine Vz ?_|intro _
 refine al_callK (args:=[str s,str [47],int 0]) [] _ (by rw [hs];exact h1) (fun u m1 hh=>?_) lpr
 obtain⟨gs,gp,gv,rfl,rfl⟩:=hh
 repeat' first|refine Vz ?_|intro _
 refine reK _ ⟨gs,gp,gv,rfl,rfl⟩ ?_
 exact sbl
set_option maxHeartbeats 2000000 in
theorem split_iter {ok0:Ok}{w0:World}{L gs gp gv:Nat}{s:Bs}{J:List Bs->List Av.Piece}{G:List Bs->Prop}{B:List Bs->List Av.Piece->Prop}
  (hY:∀ pre x,G pre->pre++[x] <+: splS s->Yld Tryz.prog GL ok0 w0 L [str x] (J pre) fun v m'=>(v=boo true/\G (pre++[x])/\m'=J (pre++[x]))\/(v=boo false/\B (pre++[x]) m')) (hG:G []) (hl:s.length<=1000000000) {ok:Ok} {w:World} (hw:Stp ok0 w0 ok w) (hS:St (lent GL (cSeq gs gp gv s++J []) ok w) ok (cSeq gs gp gv s++J []) w) :
  Calls Tryz.prog 402 #[.func (.yield L) #[] #[],.pointer (some ⟨gp,0,none⟩),.pointer (some ⟨gs,0,none⟩),.pointer (some ⟨gv,0,none⟩)] w (Back (lent GL (cSeq gs gp gv s++J []) ok w) fun _ m'=>∃ r,(G (splS s)/\m'=cSeq gs gp gv r++J (splS s))\/∃ pre mx,pre <+: splS s/\B pre mx/\m'=cSeq gs gp gv r++mx):=by
 refine calls_enter (gl:=GL) (m:=cSeq gs gp gv s++J []) (args:=[yv L,ptr gp,ptr gs,ptr gv]) (cargs:=[.func (.yield L) #[] #[],.pointer (some ⟨gp,0,none⟩),.pointer (some ⟨gs,0,none⟩),.pointer (some ⟨gv,0,none⟩)]) Tryz.func402 rfl Tryz.ntmps402 rfl hS ⟨_,_,rfl,RV0.of_lit rfl,_,_,rfl,RV0.of_lit rfl,_,_,rfl,RV0.of_lit rfl,_,_,rfl,RV0.of_lit rfl,rfl⟩ ?_
 have hsw:Stp ok0 w0 (lent GL (cSeq gs gp gv s++J []) ok w).ok (lent GL (cSeq gs gp gv s++J []) ok w).w:=hw
 have hs:(lent GL (cSeq gs gp gv s++J []) ok w).gl=GL:=rfl
 generalize lent GL (cSeq gs gp gv s++J []) ok w=sB at hsw hs ⊢
 clear hS
 repeat' first|refine Yz ?_|intro _
 rw [dZ (show ¬ ((([47]:Bs).length:Nat):Int)=0 by decide)]
 repeat' first|refine Yz ?_|intro _
 refine ac_loop (α:=List Bs × Bs) (fun q=>[(0,yv L),(1,ptr gp),(2,ptr gs),(3,ptr gv)]) (fun q=>cSeq gs gp gv q.2++J q.1) (fun q=>splS s=q.1++splS q.2/\G q.1/\q.2.length<=s.length) (fun q=>q.2.length) ([],s) ⟨rfl,rfl,rfl,rfl,trivial⟩ slr ⟨rfl,hG,Nat.le_refl _⟩ ?_
 rintro⟨pre,r⟩ ⟨h1,h2,h3⟩
 dsimp only at h1 h2 h3 ⊢
 refine ac_block ?_
 repeat refine ac_seq ?_
 refine ac_region ?_
 repeat' (first|refine op1 ?_|refine op2 ?_|refine opL ?_|intro _|simp only [List.set]|fail)
 refine al_nil (ae_thenC ?_)
 repeat refine ac_seq ?_
 refine ac_region ?_
 repeat' (first|refine op1 ?_|refine op2 ?_|refine opL ?_|intro _|simp only [List.set]|fail)
 refine al_nil (ae_thenC ?_)
 repeat refine ac_seq ?_
 by_cases hi:ixS r < r.length
 ·have e1:ixI r=ixS r:=by unfold ixI;rw [if_pos hi]
  rw [e1]
  refine cdF ?_
  refine ac_skip ?_
  refine ae_thenC ?_
  repeat refine ac_seq ?_
  refine ac_region ?_
  have e2:splS s=pre++[r.take (ixS r)]++splS (r.drop (ixS r + 1)):=by rw [h1,splS_ix hi,laa];rfl
  repeat' (first|refine op1 ?_|refine op2 ?_|refine opL ?_|intro _|simp only [List.set]|fail)
  refine al_sliceS 0 (ixS r) ?_
  repeat' (first|refine op1 ?_|refine op2 ?_|refine opL ?_|intro _|simp only [List.set]|fail)
  refine al_nil (ae_thenC ?_)
  repeat refine ac_seq ?_
  refine ac_regionI ?_
  refine ai_pre (α:=Unit) (fun _=>[(39,yv L),(40,str (r.take (ixS r))),(7,int (ixS r)),(0,yv L),(1,ptr gp),(2,ptr gs),(3,ptr gv)]) (fun _=>cSeq gs gp gv r++J pre) ?_ (fun _=>?_) (pre:=[_,_])
  ·repeat' (first|refine op1 ?_|refine op2 ?_|refine opL ?_|intro _|simp only [List.set]|fail)
   exact al_nil (ae_cut () (by rw [List.drop_zero];exact⟨rfl,rfl,rfl,rfl,rfl,rfl,rfl,trivial⟩) slr)
  refine ai_yield (J pre) (cSeq gs gp gv r) (by rw [hs];exact hY pre _ h2 ⟨_,e2.symm⟩) hsw (fun v m1' hv=>?_) List.perm_append_comm
  refine ai_al ?_
  refine al_st (fun ok w hS=>hS.perm (m':=cSeq gs gp gv r++m1') List.perm_append_comm) ?_
  rcases hv with⟨rfl,h4,rfl⟩|⟨rfl,h4⟩
  rotate_left
  ·repeat' first|refine Yz ?_|intro _
   refine reK (cSeq gs gp gv r++m1') ⟨r,.inr ⟨_,m1',⟨_,e2.symm⟩,h4,rfl⟩⟩ slr
  have hl1:([47]:Bs).length=1:=rfl
  repeat' first|refine Yz ?_|intro _
  refine al_sliceS (ixS r + 1) r.length ?_
  rw [List.take_length]
  repeat' first|refine Yz ?_|intro _
  refine ae_round (pre++[r.take (ixS r)],r.drop (ixS r + 1)) ⟨rfl,rfl,rfl,rfl,trivial⟩ slr ⟨e2,h4,by simp;omega⟩ (by simp;omega)
 ·have e1:ixI r=-1:=by unfold ixI;rw [if_neg hi]
  have e2:splS s=pre++[r]:=by rw [h1,splS_no hi]
  rw [e1]
  refine cdT ?_
  refine ac_exit ?_
  repeat' (first|refine ae_thenX ?_|refine ae_blockX ?_|refine ae_blockO ?_|refine ae_thenC ?_)
  refine ac_regionI ?_
  refine ai_pre (α:=Unit) (fun _=>[(49,yv L),(50,str r)]) (fun _=>cSeq gs gp gv r++J pre) ?_ (fun _=>?_) (pre:=[_,_])
  ·repeat' (first|refine op1 ?_|refine op2 ?_|refine opL ?_|intro _|simp only [List.set]|fail)
   exact al_nil (ae_cut () ⟨rfl,rfl,trivial⟩ slr)
  refine ai_yield (J pre) (cSeq gs gp gv r) (by rw [hs];exact hY pre _ h2 (by rw [e2];exact List.prefix_refl _)) hsw (fun v m1' hv=>?_) List.perm_append_comm
  refine ai_nil ?_
  refine ae_st (fun ok w hS=>hS.perm (m':=cSeq gs gp gv r++m1') List.perm_append_comm) ?_
  rcases hv with⟨rfl,h4,rfl⟩|⟨rfl,h4⟩
  ·exact ae_ret rfl ress_nil (.inr rfl) ⟨r,.inl ⟨by rw [e2];exact h4,by rw [e2]⟩⟩ slr
  ·exact ae_ret rfl ress_nil (.inr rfl) ⟨r,.inr ⟨_,m1',by rw [e2];exact List.prefix_refl _,h4,rfl⟩⟩ slr
theorem each1 {x:Bs}{g:Nat}{n:Int}(_:x.length<=1000000000)(hn:0<=n/\n<=1000000000):Av.Spec Tryz.prog GL 309 [str x,ptr g] [.var g 3 (int n)] fun u m=>u=boo (partB x && decide (n + 1<=5))/\m=[.var g 3 (int (n + 1))]:=by
 refine qE Tryz.func309 rfl Tryz.ntmps309 rfl (fun _ hs=>?_)
 repeat' first|refine Yz ?_|intro _
 cases h:partB x
 ·repeat' first|refine Yz ?_|intro _
  refine reK _ ⟨rfl,rfl⟩ ?_
  exact sbl
 ·repeat' first|refine Yz ?_|intro _
  refine reK _ ⟨rfl,rfl⟩ ?_
  exact sbl
theorem perm5 {α:Type}{a:List α}{l n e r d:α}:(a++[l,n,e,r,d]++[]).Perm (l::d::(a++[e,r,n])):=by
 rw [List.append_nil]
 refine List.perm_append_comm.trans (List.Perm.trans ?_ (((List.perm_append_comm (l₁:=[e,r,n]) (l₂:=a)).cons d).cons l))
 refine List.Perm.cons _ ?_
 exact (List.Perm.swap e n _).trans (((List.Perm.swap r n _).cons e).trans ((((List.Perm.swap d n _).cons r).cons e).trans (((List.Perm.swap d r _).cons e).trans (List.Perm.swap d e _))))
set_option maxHeartbeats 2000000 in
instance fnTCheck {s:Bs}:Ans Tryz.prog GL 247 [str s] (s.length<=1000000000) (boo (denB s)):=⟨fun hl=>by
 refine spec_enterM Tryz.func247 rfl Tryz.ntmps247 rfl (fun sB hs=>?_)
 repeat' first|refine Yz ?_|intro _
 rename_i gn gr
 refine al_makeFunc (vs:=[.pointer (some ⟨gn,0,none⟩)]) ?_
 repeat' first|refine Yz ?_|intro _
 refine al_callK (args:=[str s,str [47]]) [] _ (by rw [hs];exact splitSeq_spec) (fun u m1 hh=>?_) lpr
 obtain⟨gs,gp,gv,rfl,rfl⟩:=hh
 repeat' first|refine Yz ?_|intro _
 rename_i ge
 have hG0:([]:List Bs).all partB=true/\([]:List Bs).length<=5:=⟨rfl,by decide⟩
 refine ac_rangeFunc (gf:=402) (lb:=[.pointer (some ⟨gp,0,none⟩),.pointer (some ⟨gs,0,none⟩),.pointer (some ⟨gv,0,none⟩)]) (by simp [Value.oneCell']) (fun ok w a fn hS ha ok1 w1 st1 hS1 ha1=>?_)
 generalize hr0:loopOf fn a _ _ _ w=r0 at hS1 ⊢
 have e1:r0.state=.ready:=by rw [<- hr0]
 have e2:r0.pending=none:=by rw [<- hr0]
 have e3:r0.tmps=a.tmps:=by rw [<- hr0]
 have e4:r0.params=#[13]:=by rw [<- hr0]
 have e5:{ { r0 with state:=.busy } with state:=.ready,pending:=none }=r0:=by rw [<- hr0]
 generalize hD:w.heap.size=D at hS1 ⊢
 have hS2:=hS1.perm (m':=(cSeq gs gp gv s++[.obj (D + 1) (.loop r0),.var gn 3 (int 0),.var ge 230 (fnv 309 [.pointer (some ⟨gn,0,none⟩)]),.var gr 4 (boo (decide (((s.length:Nat):Int)<=200))),.obj D (.deferred (some []))])++[]) perm5
 have hIt:=split_iter (ok0:=ok1) (w0:=w1) (L:=D + 1) (gs:=gs) (gp:=gp) (gv:=gv) (s:=s)
  (J:=fun pre=>[.obj (D + 1) (.loop r0),.var gn 3 (int pre.length),.var ge 230 (fnv 309 [.pointer (some ⟨gn,0,none⟩)]),.var gr 4 (boo (decide (((s.length:Nat):Int)<=200))),.obj D (.deferred (some []))])
  (G:=fun pre=>pre.all partB=true/\pre.length<=5)
  (B:=fun pre m'=>¬ (pre.all partB=true/\pre.length<=5)/\m'=[.obj (D + 1) (.loop { { r0 with state:=.busy } with state:=.done,pending:=some (.exit 0) }),.var gn 3 (int pre.length),.var ge 230 (fnv 309 [.pointer (some ⟨gn,0,none⟩)]),.var gr 4 (boo false),.obj D (.deferred (some []))])
  (fun pre x hG hpx=>?_) hG0 hl (Stp.refl _ _) (by rw [<- hs];exact hS2.lend)
 rotate_left
 ·have hxm:x ∈ splS s:=hpx.subset (by simp)
  have hxl:x.length<=1000000000:=Nat.le_trans (splS_part hxm) hl
  have e6:=congrArg Loop.assign hr0.symm
  have e7:=congrArg Loop.body hr0.symm
  dsimp only at e6 e7
  refine yld_of (N:=19) (p:=13) ha1 e3 e4 rfl (fun s2 hs2=>?_)
  rw [e6,e7]
  refine bc_region ?_
  repeat' (first|refine op1 ?_|refine op2 ?_|refine opL ?_|intro _|simp only []|fail)
  refine al_nil (be_begin lpr e1 ?_)
  refine bc_block (bc_seq (bc_region ?_))
  repeat' (first|refine op1 ?_|refine op2 ?_|refine opL ?_|intro _|simp only [List.set]|fail)
  refine al_callV (args:=[str x]) (cs:=[.pointer (some ⟨gn,0,none⟩)]) [.var gn 3 (int pre.length)] [.obj (D + 1) (.loop { r0 with state:=.busy }),.var ge 230 (fnv 309 [.pointer (some ⟨gn,0,none⟩)]),.var gr 4 (boo (decide (((s.length:Nat):Int)<=200))),.obj D (.deferred (some []))] (by rw [hs2];exact each1 hxl ⟨by omega,by have:=hG.2;omega⟩) (fun u m1 hh=>?_) (List.Perm.swap _ _ _)
  obtain⟨rfl,rfl⟩:=hh
  repeat' (first|refine op1 ?_|refine op2 ?_|refine opL ?_|intro _|simp only [List.set]|fail)
  refine al_nil (be_thenC (bc_condN (b:=partB x && decide (((pre.length:Nat):Int) + 1<=5)) rfl (fun hb=>?_) (fun hb=>?_)))
  ·refine bc_skip (ae_block (ae_roundN (r:={ r0 with state:=.busy }) (m1:=[.var gn 3 (int (((pre.length:Nat):Int) + 1)),.var ge 230 (fnv 309 [.pointer (some ⟨gn,0,none⟩)]),.var gr 4 (boo (decide (((s.length:Nat):Int)<=200))),.obj D (.deferred (some []))]) (List.Perm.swap _ _ _) (.inl ⟨rfl,?_,?_⟩)))
   ·rw [bet,decide_eq_true_iff] at hb
    rw [List.all_append,hG.1]
    refine⟨by simp [hb.1],?_⟩
    rw [lla,List.length_singleton]
    omega
   ·rw [e5,show (((pre++[x]).length:Nat):Int)=((pre.length:Nat):Int) + 1 by simp]
  ·refine bc_seq (bc_region ?_)
   repeat' (first|refine op1 ?_|refine op2 ?_|refine opL ?_|intro _|simp only [List.set]|fail)
   refine al_nil (be_thenC (bc_exit (ae_blockO (ae_roundX (r:={ r0 with state:=.busy }) (m1:=[.var gn 3 (int (((pre.length:Nat):Int) + 1)),.var ge 230 (fnv 309 [.pointer (some ⟨gn,0,none⟩)]),.var gr 4 (boo false),.obj D (.deferred (some []))]) (List.Perm.swap _ _ _) (.inr ⟨rfl,?_,?_⟩)))))
   ·rintro⟨h1,h2⟩
    rw [List.all_append,bet] at h1
    rw [lla,List.length_singleton] at h2
    have h3:partB x=true:=by simpa using h1.2
    rw [h3,Bool.true_and] at hb
    have:=of_decide_eq_false hb
    omega
   ·rw [show (((pre++[x]).length:Nat):Int)=((pre.length:Nat):Int) + 1 by simp]
    dsimp only
    rw [e6,e7]
 refine Calls.mono hIt fun x w2 hx=>?_
 obtain⟨v,m',ok',cv,⟨r,hK⟩,rfl,hv,hSt⟩:=hx
 have hSt':=hS2.back (fr:=[]) (by rw [hs];exact hSt)
 rw [List.append_nil] at hSt'
 have hmk:markOf w=[{ target:=.collected D,args:=#[] }]:=by rw [<- hD]
 rcases hK with⟨⟨g1,g2⟩,rfl⟩|⟨pre,mx,hp,⟨hn,rfl⟩,rfl⟩
 ·refine⟨cv,ok',r0,_,rfl,by rw [e1];decide,hSt'.perm List.perm_middle.symm,hSt.stp,fun ok3 w3 hS3 st3=>?_⟩
  rw [e2,hmk]
  dsimp only
  refine (?_:AED 19 [{ target:=.collected D,args:=#[] }] .normal _ sB _ _) ok3 w3 a hS3 (((ha.stp st1).stp hSt.stp).stp st3)
  refine aed_block ?_
  refine aed_thenC (acd_seq (acd_region (α:=Unit) (fun _=>[(2,boo (decide (((s.length:Nat):Int)<=200)))]) (fun _=>.obj (D + 1) (.loop { r0 with state:=.exhausted })::(cSeq gs gp gv r++[.var gn 3 (int (splS s).length),.var ge 230 (fnv 309 [.pointer (some ⟨gn,0,none⟩)]),.var gr 4 (boo (decide (((s.length:Nat):Int)<=200))),.obj D (.deferred (some []))])) ?_ (fun _=>?_)))
  ·repeat' (first|refine op1 ?_|refine op2 ?_|refine opL ?_|intro _|simp only [List.set]|fail)
   exact al_nil (ae_cut () ⟨rfl,trivial⟩ slr)
  refine aed_thenC (acd_ret (aed_noGotoR ?_))
  refine aed_retM (D:=D) (m1:=.obj (D + 1) (.loop { r0 with state:=.exhausted })::(cSeq gs gp gv r++[.var gn 3 (int (splS s).length),.var ge 230 (fnv 309 [.pointer (some ⟨gn,0,none⟩)]),.var gr 4 (boo (decide (((s.length:Nat):Int)<=200)))])) rfl ?_ (ress_cons (res_tmp rfl rfl) ress_nil) (.inl rfl) ⟨?_,rfl⟩ (List.nil_sublist _)
  ·exact List.perm_append_singleton _ (.obj (D + 1) (.loop { r0 with state:=.exhausted })::(cSeq gs gp gv r++[.var gn 3 (int (splS s).length),.var ge 230 (fnv 309 [.pointer (some ⟨gn,0,none⟩)]),.var gr 4 (boo (decide (((s.length:Nat):Int)<=200)))]))
  unfold denB
  rw [g1,dT g2]
  rw [show decide (((s.length:Nat):Int)<=200)=decide (s.length<=200) from decide_eq_decide.2 (by omega)]
  simp [outOf]
 ·refine⟨cv,ok',{ { r0 with state:=.busy } with state:=.done,pending:=some (.exit 0) },_,rfl,(fun h=>by cases h),hSt'.perm List.perm_middle.symm,hSt.stp,fun ok3 w3 hS3 st3=>?_⟩
  rw [hmk]
  refine wp_exit ?_
  refine inBlock_at ?_
  refine (?_:AED 19 [{ target:=.collected D,args:=#[] }] .normal _ sB _ _) ok3 w3 a hS3 (((ha.stp st1).stp hSt.stp).stp st3)
  refine aed_thenC (acd_seq (acd_region (α:=Unit) (fun _=>[(2,boo false)]) (fun _=>.obj (D + 1) (.loop { { { r0 with state:=.busy } with state:=.done,pending:=some (.exit 0) } with state:=.exhausted })::(cSeq gs gp gv r++[.var gn 3 (int pre.length),.var ge 230 (fnv 309 [.pointer (some ⟨gn,0,none⟩)]),.var gr 4 (boo false),.obj D (.deferred (some []))])) ?_ (fun _=>?_)))
  ·repeat' (first|refine op1 ?_|refine op2 ?_|refine opL ?_|intro _|simp only []|fail)
   exact al_nil (ae_cut () ⟨rfl,trivial⟩ slr)
  refine aed_thenC (acd_ret (aed_noGotoR ?_))
  refine aed_retM (D:=D) (m1:=.obj (D + 1) (.loop { { { r0 with state:=.busy } with state:=.done,pending:=some (.exit 0) } with state:=.exhausted })::(cSeq gs gp gv r++[.var gn 3 (int pre.length),.var ge 230 (fnv 309 [.pointer (some ⟨gn,0,none⟩)]),.var gr 4 (boo false)])) rfl ?_ (ress_cons (res_tmp rfl rfl) ress_nil) (.inl rfl) ⟨?_,rfl⟩ (List.nil_sublist _)
  ·exact List.perm_append_singleton _ (.obj (D + 1) (.loop { { { r0 with state:=.busy } with state:=.done,pending:=some (.exit 0) } with state:=.exhausted })::(cSeq gs gp gv r++[.var gn 3 (int pre.length),.var ge 230 (fnv 309 [.pointer (some ⟨gn,0,none⟩)]),.var gr 4 (boo false)]))
  have hd:denB s=false:=by
   by_cases h1:(splS s).all partB=true/\(splS s).length<=5
   ·refine (hn ⟨?_,Nat.le_trans hp.length_le h1.2⟩).elim
    rw [List.all_eq_true] at h1 ⊢
    exact fun y hy=>h1.1 y (hp.subset hy)
   ·unfold denB
    cases h2:(splS s).all partB
    ·simp
    ·have:¬ (splS s).length<=5:=fun h=>h1 ⟨h2,h⟩
     simp [this]
  rw [hd]
  rfl⟩

set_option maxHeartbeats 1000000 in
instance fnR12Check {s:Bs}:Ans Tryz.prog GL 143 [str s] (s.length<=1000000000) (boo (denB s)):=⟨fun hl=>by
 have hlen:=splS_len s
 have hcnt:=List.count_le_length (l:=s) (a:=(47:UInt8))
 refine qE Tryz.func143 rfl Tryz.ntmps143 rfl (fun _ hs=>?_)
 repeat' first|refine Vz ?_|intro _
 have hml:((splS s).map str).length=(splS s).length:=llm _
 refine ac_loop (α:=Nat) (fun i=>[(0,str s),(3,.sl 1 ((splS s).map str) none),(4,int i)]) (fun i=>[]) (fun i=>i<=(splS s).length/\∀ j,(hj:j < (splS s).length)->j < i->partB (splS s)[j]=true) (fun i=>(splS s).length - i) 0 ⟨rfl,rfl,rfl,trivial⟩ slr ⟨Nat.zero_le _,fun _ _ h=>absurd h (by omega)⟩ ?_
 rintro i ⟨hi,hall⟩
 repeat' first|refine Vz ?_|intro _
 refine ac_cond (fun hlt=>?_) (fun hlt=>?_)
 ·have hil:i < (splS s).length:=by omega
  have hpl:(splS s)[i].length<=4611686018427387904:=Nat.le_trans (splS_part (List.getElem_mem hil)) (by omega)
  repeat' first|refine Vz ?_|intro _
  cases hb:partB (splS s)[i]
  ·repeat' first|refine Vz ?_|intro _
   refine reE ?_
   have:denB s=false:=by
    unfold denB
    have:(splS s).all partB=false:=List.all_eq_false.2 ⟨_,List.getElem_mem hil,by rw [hb];decide⟩
    rw [this]
    simp
   rw [this]
   rfl
  ·repeat' first|refine Vz ?_|intro _
   refine ae_round (i + 1) ⟨rfl,rfl,rfl,trivial⟩ slr ⟨hil,fun j hj h=>?_⟩ (by omega)
   by_cases hj2:j < i
   ·exact hall j hj hj2
   ·obtain rfl:j=i:=by omega
    exact hb
 ·obtain rfl:i=(splS s).length:=by omega
  have ht:(splS s).all partB=true:=List.all_eq_true.2 fun x hx=>by
   obtain⟨j,hj,rfl⟩:=List.getElem_of_mem hx
   exact hall j hj hj
  have hd:denB s=(decide (s.length<=200) && decide ((splS s).length<=5)):=by
   unfold denB
   rw [ht,Bool.true_and]
  rw [hd]
  repeat' first|refine Vz ?_|intro _
  refine gu1 (fun h=>?_) (fun h=>?_)
  ·repeat' first|refine Vz ?_|intro _
   refine reE ?_
   rw [dT (show (splS s).length<=5 by omega),Bool.and_true,decide_eq_decide.2 (show s.length<=200↔(s.length:Int)<=200 by omega)]
   rfl
  ·repeat' first|refine Zz ?_|intro _
   refine reE ?_
   rw [dZ (show ¬ (splS s).length<=5 by omega),Bool.and_false]
   rfl⟩
theorem hop_len {s:Bs}:((splS s).length:Int) - 1=(s.count 47:Nat):=by
 have:=splS_len s
 omega
instance fnR12Hops {s:Bs}:Ans Tryz.prog GL 145 [str s] (s.length<=1000000000) (int (hopN s)):=⟨fun hl=>by
 have hlen:=splS_len s
 have hcnt:=List.count_le_length (l:=s) (a:=(47:UInt8))
 have hml:((splS s).map str).length=(splS s).length:=llm _
 refine qE Tryz.func145 rfl Tryz.ntmps145 rfl (fun _ hs=>?_)
 repeat' first|refine Vz ?_|intro _
 unfold hopN
 cases hb:denB s
 ·repeat' first|refine Vz ?_|intro _
  refine reE ?_
  rfl
 ·repeat' first|refine Vz ?_|intro _
  refine reE ?_
  show int (((splS s).map str).length - 1)=_
  rw [hml,hop_len]
  rfl⟩
instance fnTHops {s:Bs}:Ans Tryz.prog GL 248 [str s] (s.length<=1000000000) (int (hopN s)):=⟨fun hl=>by
 refine qE Tryz.func248 rfl Tryz.ntmps248 rfl (fun _ hs=>?_)
 repeat' first|refine Vz ?_|intro _
 unfold hopN
 cases hb:denB s
 ·repeat' first|refine Vz ?_|intro _
  refine reE ?_
  rfl
 ·repeat' first|refine Vz ?_|intro _
  refine reE ?_
  rfl⟩
instance fnBName {s:Bs}:Ans Tryz.prog GL 312 [str s] True (boo (nameB s)):=⟨fun _=>by
 refine qE Tryz.func312 rfl Tryz.ntmps312 rfl (fun _ hs=>?_)
 repeat' first|refine Vz ?_|intro _
 unfold nameB
 rcases s with _|⟨c,s⟩
 ·repeat' first|refine Zz ?_|intro _
  refine reE ?_
  rfl
 ·repeat' first|refine Zz ?_|intro _
  refine reE ?_
  rw [decide_eq_decide.2 (show (1<=(c::s).length/\(c::s).length<=64)↔(((c::s).length:Int)<=64) by rw [List.length_cons];omega)]
  rfl⟩
instance fnBDenom {s:Bs}:Ans Tryz.prog GL 372 [str s] True (boo (dnmB s)):=⟨fun _=>by
 refine qE Tryz.func372 rfl Tryz.ntmps372 rfl (fun _ hs=>?_)
 repeat' first|refine Vz ?_|intro _
 unfold dnmB
 rcases s with _|⟨c,s⟩
 ·repeat' first|refine Zz ?_|intro _
  refine reE ?_
  rfl
 ·repeat' first|refine Zz ?_|intro _
  refine reE ?_
  rw [decide_eq_decide.2 (show (1<=(c::s).length/\(c::s).length<=200)↔(((c::s).length:Int)<=200) by rw [List.length_cons];omega)]
  rfl⟩
instance fnR11Name {s:Bs}:Ans Tryz.prog GL 211 [str s] True (boo (nameB s)):=⟨fun _=>by
 refine qE Tryz.func211 rfl Tryz.ntmps211 rfl (fun _ hs=>?_)
 repeat' first|refine Vz ?_|intro _
 unfold nameB
 by_cases h:1<=s.length
 ·repeat' first|refine Zz ?_|intro _
  refine reE ?_
  rw [decide_eq_decide.2 (show (1<=s.length/\s.length<=64)↔((s.length:Int)<=64) by omega)]
  rfl
 ·repeat' first|refine Zz ?_|intro _
  refine reE ?_
  rw [dZ (show ¬ (1<=s.length/\s.length<=64) by omega)]
  rfl⟩
instance fnR11Denom {s:Bs}:Ans Tryz.prog GL 212 [str s] True (boo (dnmB s)):=⟨fun _=>by
 refine qE Tryz.func212 rfl Tryz.ntmps212 rfl (fun _ hs=>?_)
 repeat' first|refine Vz ?_|intro _
 unfold dnmB
 by_cases h:1<=s.length
 ·repeat' first|refine Zz ?_|intro _
  refine reE ?_
  rw [decide_eq_decide.2 (show (1<=s.length/\s.length<=200)↔((s.length:Int)<=200) by omega)]
  rfl
 ·repeat' first|refine Zz ?_|intro _
  refine reE ?_
  rw [dZ (show ¬ (1<=s.length/\s.length<=200) by omega)]
  rfl⟩
instance fnPPlain {s:Bs}:Ans Tryz.prog GL 249 [str s] True (boo (plainB s)):=⟨fun _=>by
 refine qE Tryz.func249 rfl Tryz.ntmps249 rfl (fun _ hs=>?_)
 repeat' first|refine Vz ?_|intro _
 unfold plainB
 cases hb:nameB s
 ·repeat' first|refine Zz ?_|intro _
  refine reE ?_
  rw [Bool.and_false]
  rfl
 ·repeat' first|refine Zz ?_|intro _
  refine reE ?_
  rw [Bool.and_true,Bool.not_not]
  rfl⟩
instance fnR13Plain {s:Bs}:Ans Tryz.prog GL 144 [str s] (s.length<=4611686018427387904) (boo (plainB s)):=⟨fun hl=>by
 refine qE Tryz.func144 rfl Tryz.ntmps144 rfl (fun _ hs=>?_)
 repeat' first|refine Vz ?_|intro _
 refine ac_loop (α:=Nat) (fun i=>[(0,str s),(3,int i)]) (fun i=>[]) (fun i=>i<=s.length/\∀ j,j < i->(s.getD j 0).toNat≠47) (fun i=>s.length - i) 0 ⟨rfl,rfl,trivial⟩ slr ⟨Nat.zero_le _,fun _ h=>absurd h (by omega)⟩ ?_
 rintro i ⟨hi,hall⟩
 repeat' first|refine Vz ?_|intro _
 refine ac_cond (fun hlt=>?_) (fun hlt=>?_)
 ·have hil:i < s.length:=by omega
  repeat' first|refine Vz ?_|intro _
  refine al_idxS i ?_ (List.getElem?_eq_getElem hil)
  repeat' first|refine Vz ?_|intro _
  refine ac_cond (fun h=>?_) (fun h=>?_)
  ·repeat' first|refine Vz ?_|intro _
   refine reE ?_
   unfold plainB
   rw [noSl_ff hil (by rw [getD_in hil];omega)]
   rfl
  ·repeat' first|refine Vz ?_|intro _
   refine ae_round (i + 1) ⟨rfl,rfl,trivial⟩ slr ⟨hil,fun j hj=>?_⟩ (by omega)
   by_cases hj2:j < i
   ·exact hall j hj2
   ·obtain rfl:j=i:=by omega
    rw [getD_in hil]
    omega
 ·have hy:noSl s=true:=noSl_iff.2 fun j hj=>hall j (by omega)
  repeat' first|refine Vz ?_|intro _
  refine reE ?_
  unfold plainB
  rw [hy,Bool.true_and]
  rfl⟩

set_option maxHeartbeats 2000000 in
instance fnRWAdd {a b:Wd}:Ans Tryz.prog GL 213 [widA a,widA b] True (.tup [widA (wOf (a.n + b.n)),boo (wIs (a.n + b.n))]):=⟨fun _=>by
 have hla:=dgs_len a.n 32
 have hlb:=dgs_len b.n 32
 refine qE Tryz.func213 rfl Tryz.ntmps213 rfl (fun _ hs=>?_)
 repeat' first|refine Vz ?_|intro _
 rename_i g2 g3 g4
 refine ac_as 8 (Imp.nil (k:=1)) ?_
 refine ac_st (fun ok w h=>h.full 3 1 none 0) ?_
 refine ac_loop (α:=Nat × Value) (fun q=>[(4,ptr g4),(6,.sl 1 (dI (dgs a.n 32)) none),(7,.sl 1 (dI (dgs b.n 32)) none),(8,.sl 1 (dI (dgs (a.n + b.n) q.1)) (some q.2)),(9,int (cry a.n b.n q.1)),(10,int q.1)]) (fun q=>[.tail 3 1 q.2,.var g4 86 (widN 0)]) (fun q=>q.1<=32) (fun q=>32 - q.1) (0,.slice none 0 0) ⟨rfl,rfl,rfl,rfl,?_,rfl,trivial⟩ (by repeat (first|exact List.nil_sublist _|exact List.Sublist.refl _|apply List.Sublist.cons_cons|apply List.Sublist.cons)) (Nat.zero_le _) ?_
 ·rw [cry0]
  rfl
 rintro⟨i,v⟩ hi
 dsimp only at hi ⊢
 have hm:(dI (dgs (a.n + b.n) i)).length=i:=by rw [dI_len,dgs_len]
 have hm2:=dgs_len (a.n + b.n) i
 have c1:=(add_dg a.n b.n i).1
 repeat' first|refine Vz ?_|intro _
 refine ac_cond (fun hlt=>?_) (fun hlt=>?_)
 ·have hka:i < (dgs a.n 32).length:=by omega
  have hkb:i < (dgs b.n 32).length:=by omega
  have ea:=dgs_get hka
  have eb:=dgs_get hkb
  have da:=dg_lt a.n i
  have db:=dg_lt b.n i
  have e1:True->(((dgs a.n 32)[i].toNat:Int) + ((dgs b.n 32)[i].toNat:Int) + (cry a.n b.n i:Int)) % 256=((dg (a.n + b.n) i:Nat):Int):=fun _=>by
   obtain⟨c1,c2,c3⟩:=add_dg a.n b.n i
   omega
  have e2:True->(((dgs a.n 32)[i].toNat:Int) + ((dgs b.n 32)[i].toNat:Int) + (cry a.n b.n i:Int)) / 256=((cry a.n b.n (i + 1):Nat):Int):=fun _=>by
   obtain⟨c1,c2,c3⟩:=add_dg a.n b.n i
   omega
  repeat' first|refine Vz ?_|intro _
  rw [e1 trivial]
  repeat' first|refine Vz ?_|intro _
  refine al_append (fun v'=>?_)
  repeat' first|refine Vz ?_|intro _
  rw [e2 trivial,<- dgs_snoc]
  refine ae_round (i + 1,v') ⟨rfl,rfl,rfl,rfl,rfl,rfl,trivial⟩ ?_ (by dsimp only;omega) (by dsimp only;omega)
  exact sbl
 ·obtain rfl:i=32:=by omega
  have hall:=add_all a b
  generalize cry a.n b.n 32=c at *
  have e3:dI (dgs (a.n + b.n) 32)++[int (c:Int)]=dI (dgs (a.n + b.n) 32++[UInt8.ofNat c]):=by
   have h1:(UInt8.ofNat c).toNat=c:=by
    rw [UInt8.toNat_ofNat']
    exact Nat.mod_eq_of_lt (by omega)
   rw [dI_snoc,h1]
  have hlen:(dgs (a.n + b.n) 32++[UInt8.ofNat c]).length=32\/(dgs (a.n + b.n) 32++[UInt8.ofNat c]).length=33:=.inr (by rw [lla,dgs_len];rfl)
  generalize dgs (a.n + b.n) 32=D at *
  generalize hX:D++[UInt8.ofNat c]=X at *
  repeat' first|refine Vz ?_|intro _
  refine al_append (fun v'=>?_)
  rw [e3]
  repeat' first|refine Vz ?_|intro _
  refine reE ?_
  rw [hall]
  rfl⟩
set_option maxHeartbeats 2000000 in
instance fnRWSub {a b:Wd}:Ans Tryz.prog GL 219 [widA a,widA b] True (.tup [widA (wOf (a.n - b.n)),boo (decide (b.n<=a.n))]):=⟨fun _=>by
 have hla:=dgs_len a.n 32
 have hlb:=dgs_len b.n 32
 by_cases hle:b.n<=a.n
 ·have hc:cmpW a b=0\/cmpW a b=1:=by
   unfold cmpW
   rw [if_neg (by omega)]
   split
   ·exact .inr rfl
   ·exact .inl rfl
  have hnn:0<=cmpW a b:=by omega
  obtain⟨d,hd⟩:∃ d,a.n=d + b.n:=⟨a.n - b.n,by omega⟩
  rw [dT hle,show a.n - b.n=d by omega]
  have hdl:d < 115792089237316195423570985008687907853269984665640564039457584007913129639936:=Nat.lt_of_le_of_lt (by omega) a.lt
  refine qE Tryz.func219 rfl Tryz.ntmps219 rfl (fun _ hs=>?_)
  repeat' first|refine Zz ?_|intro _
  rename_i g2 g3 g4
  refine ac_as 8 (Imp.nil (k:=1)) ?_
  refine ac_st (fun ok w h=>h.full 3 1 none 0) ?_
  refine ac_loop (α:=Nat × Value) (fun q=>[(4,ptr g4),(6,.sl 1 (dI (dgs a.n 32)) none),(7,.sl 1 (dI (dgs b.n 32)) none),(8,.sl 1 (dI (dgs d q.1)) (some q.2)),(9,int (cry d b.n q.1)),(10,int q.1)]) (fun q=>[.tail 3 1 q.2,.var g4 86 (widN 0)]) (fun q=>q.1<=32) (fun q=>32 - q.1) (0,.slice none 0 0) ⟨rfl,rfl,rfl,rfl,?_,rfl,trivial⟩ (by repeat (first|exact List.nil_sublist _|exact List.Sublist.refl _|apply List.Sublist.cons_cons|apply List.Sublist.cons)) (Nat.zero_le _) ?_
  ·rw [cry0]
   rfl
  rintro⟨i,v⟩ hi
  dsimp only at hi ⊢
  have hm:(dI (dgs d i)).length=i:=by rw [dI_len,dgs_len]
  have hm2:=dgs_len d i
  have c1:=(add_dg d b.n i).1
  repeat' first|refine Vz ?_|intro _
  refine ac_cond (fun hlt=>?_) (fun hlt=>?_)
  ·have hka:i < (dgs a.n 32).length:=by omega
   have hkb:i < (dgs b.n 32).length:=by omega
   have ea:=dgs_get hka
   have eb:=dgs_get hkb
   have da:=dg_lt a.n i
   have db:=dg_lt b.n i
   have dd:=dg_lt d i
   obtain⟨z,hz,hzz⟩:=sub_dg hd i
   have ez:(((dgs a.n 32)[i].toNat:Int) - ((dgs b.n 32)[i].toNat:Int) - (cry d b.n i:Int))=z:=by omega
   have e1:=dgs_snoc (n:=d) (k:=i)
   generalize dg d i=D at *
   have hzb:-257<=z/\z<=256:=by omega
   repeat' first|refine Vz ?_|intro _
   rw [ez]
   clear hd hz ez ea eb da db
   rcases hzz with⟨z1,z2,z3⟩|⟨z1,z2,z3⟩
   ·repeat' first|refine Zz ?_|intro _
    refine al_append (fun v'=>?_)
    repeat' first|refine Vz ?_|intro _
    rw [z2,<- e1]
    refine ae_as 9 (v:=int 1) (v':=int (cry d b.n (i + 1))) (Imp.of_eq (by rw [z3];rfl)) ?_
    refine ae_round (i + 1,v') ⟨rfl,rfl,rfl,rfl,rfl,rfl,trivial⟩ ?_ (by dsimp only;omega) (by dsimp only;omega)
    exact sbl
   ·repeat' first|refine Zz ?_|intro _
    refine al_append (fun v'=>?_)
    repeat' first|refine Vz ?_|intro _
    rw [z2,<- e1]
    refine ae_as 9 (v:=int 0) (v':=int (cry d b.n (i + 1))) (Imp.of_eq (by rw [z3];rfl)) ?_
    refine ae_round (i + 1,v') ⟨rfl,rfl,rfl,rfl,rfl,rfl,trivial⟩ ?_ (by dsimp only;omega) (by dsimp only;omega)
    exact sbl
  ·obtain rfl:i=32:=by omega
   have hlen:(dgs d 32).length=32\/(dgs d 32).length=33:=.inl (dgs_len d 32)
   have hall:=sub_all hdl
   generalize dgs d 32=X at *
   repeat' first|refine Vz ?_|intro _
   refine reE ?_
   rw [hall]
   rw [show wIs d=true from dT hdl]
   rfl
 ·have hneg:cmpW a b=-1:=by
   unfold cmpW
   rw [if_pos (by omega)]
  rw [dZ hle,show a.n - b.n=0 by omega]
  refine qE Tryz.func219 rfl Tryz.ntmps219 rfl (fun _ hs=>?_)
  repeat' first|refine Vz ?_|intro _
  rw [hneg]
  repeat' first|refine Zz ?_|intro _
  refine reE ?_
  rfl⟩

instance fnKOf {k i:Bs}:Ans Tryz.prog GL 289 [str k,str i] (k.length<=1000000000) (str (kyO k i)):=⟨fun h=>by
 refine qE Tryz.func289 rfl Tryz.ntmps289 rfl (fun _ hs=>?_)
 have hl:=tlvT_len 105 i
 repeat' first|refine Vz ?_|intro _
 refine reE ?_
 rfl⟩
instance fnKChan {i:Bs}:Ans Tryz.prog GL 204 [str i] True (str (kyO [72] i)):=⟨fun _=>by
 refine qE Tryz.func204 rfl Tryz.ntmps204 rfl (fun _ hs=>?_)
 repeat' first|refine Vz ?_|intro _
 refine reE ?_
 rfl⟩
theorem within {n l:Int}:Ans Tryz.prog GL 335 [int n,int l] True (boo (decide (l<=n/\n<=1099511627776))):=⟨fun _=>by
 refine qE Tryz.func335 rfl Tryz.ntmps335 rfl (fun _ hs=>?_)
 repeat' first|refine Vz ?_|intro _
 refine gu1 (fun h=>?_) (fun h=>?_)
 ·repeat' first|refine Vz ?_|intro _
  refine reE ?_
  rw [decide_eq_decide.2 (show (l<=n/\n<=1099511627776)↔(n<=1099511627776) by omega)]
  rfl
 ·repeat' first|refine Vz ?_|intro _
  refine reE ?_
  rw [dZ (show ¬ (l<=n/\n<=1099511627776) by omega)]
  rfl⟩
instance {n l:Int}:Ans Tryz.prog GL 335 [int n,int l] True (boo (decide (l<=n/\n<=1099511627776))):=within

instance {x:Pkt}:LenLe (pktB x) 150994971:=by unfold pktB;infer_instance
instance {n:Nat}:LenLe (beB n) 32:=⟨Nat.le_of_eq (beB_len n)⟩

end Go.Proofs.YtndhpgclmgpmoaaGreatDoor
