/- packets, walked: bytes, answers, limits -/
import Derived.Test.YtlkkekpcofjbeaaGreatDoorA25
import Derived.Test.YtlkkekpcofjbeaaGreatDoorA26
import Derived.Test.YtlkkekpcofjbeaaGreatDoorA27
import Derived.Test.YtlkkekpcofjbeaaGreatDoorA32
import Derived.Test.YtlkkekpcofjbeaaGreatDoorA33
namespace Go.Proofs.YtlkkekpcofjbeaaGreatDoor
open Go Go.RowKit Tw Av
theorem aed_noGotoR {N:Nat}{Q:Exit->Act->World->Prop}{s:Av.Base}{e:Av.Env}{m:List Av.Piece}{ds:List Deferred}(h:AED N ds .ret Q s e m):AED N ds .ret (Exit.noGoto Q) s e m:=h
theorem bc_condN {P:Program}{N L:Nat}{Q:Exit->Act->World->Prop}{s:Av.Base}{e:Av.Env}{m:List Av.Piece}{c:Operand}{x y:Code}{b:Bool}(hc:Av.ev e c=some (.lit (.bool (!b))))(h1:b=true->BC P N L y Q s e m)(h2:b=false->BC P N L x Q s e m):BC P N L (.cond c x y) Q s e m:=by
 cases b
 ·exact bc_condT (h2 rfl) hc
 ·exact bc_condF (h1 rfl) hc
theorem inBlock_at {Q:Exit->Act->World->Prop}{id:Nat}{a:Act}{w:World}(h:Q .normal a w):Exit.inBlock id Q (.exit id) a w:=by
 simp only [Exit.inBlock,if_true]
 exact h
theorem ixS_47 {s:Bs}:ixS (47::s)=0:=by
 unfold ixS
 rw [List.findIdx_cons]
 rfl
theorem ixS_cons {c:UInt8}{s:Bs}(h:c≠47):ixS (c::s)=ixS s + 1:=by
 unfold ixS
 rw [List.findIdx_cons,dZ h]
 rfl
theorem splS_ix:∀ {s:Bs},ixS s < s.length->splS s=s.take (ixS s)::splS (s.drop (ixS s + 1))
 | [],h=>by simp at h
 | c::s,h=>by
  by_cases hc:c=47
  ·subst hc
   rw [ixS_47,splS,if_pos rfl]
   rfl
  ·rw [ixS_cons hc] at h ⊢
   rw [splS,if_neg hc,splS_ix (s:=s) (by simpa using h)]
   rfl
theorem splS_no:∀ {s:Bs},¬ ixS s < s.length->splS s=[s]
 | [],_=>rfl
 | c::s,h=>by
  by_cases hc:c=47
  ·subst hc
   rw [ixS_47] at h
   simp at h
  ·rw [ixS_cons hc] at h
   rw [splS,if_neg hc,splS_no (s:=s) (by simpa using h)]
   rfl
abbrev cSeq (gs gp gv:Nat)(s:Bs):List Av.Piece:=[.var gv 3 (int 0),.var gp 9 (str [47]),.var gs 9 (str s)]
theorem splitSeq_spec {s:Bs}:Av.Spec Tryz.prog GL 161 [str s,str [47]] [] fun u m=>∃ gs gp gv,u=fnv 258 [.pointer (some ⟨gp,0,none⟩),.pointer (some ⟨gs,0,none⟩),.pointer (some ⟨gv,0,none⟩)]/\m=cSeq gs gp gv s:=by
 have h1:Av.Spec Tryz.prog GL 218 [str s,str [47],int 0] [] fun u m=>∃ gs gp gv,u=fnv 258 [.pointer (some ⟨gp,0,none⟩),.pointer (some ⟨gs,0,none⟩),.pointer (some ⟨gv,0,none⟩)]/\m=cSeq gs gp gv s:=by
  refine qE Tryz.func218 rfl Tryz.ntmps218 rfl (fun _ hs=>?_)
  repeat' first|refine Vz ?_|intro _
  rename_i gs gp gv
  refine al_makeFunc (vs:=[.pointer (some ⟨gp,0,none⟩),.pointer (some ⟨gs,0,none⟩),.pointer (some ⟨gv,0,none⟩)]) ?_
  repeat' first|refine Vz ?_|intro _
  refine reK _ ⟨gs,gp,gv,rfl,rfl⟩ ?_
  exact List.Sublist.refl _
 refine qE Tryz.func161 rfl Tryz.ntmps161 rfl (fun _ hs=>?_)
 repeat' first|refine Vz ?_|intro _
 refine al_callK (args:=[str s,str [47],int 0]) [] _ (by rw [hs];exact h1) (fun u m1 hh=>?_) lpr
 obtain⟨gs,gp,gv,rfl,rfl⟩:=hh
 repeat' first|refine Vz ?_|intro _
 refine reK _ ⟨gs,gp,gv,rfl,rfl⟩ ?_
 exact sbl
set_option maxHeartbeats 2000000 in
theorem split_iter {ok0:Ok}{w0:World}{L gs gp gv:Nat}{s:Bs}{J:List Bs->List Av.Piece}{G:List Bs->Prop}{B:List Bs->List Av.Piece->Prop}
  (hY:∀ pre x,G pre->pre++[x] <+: splS s->Yld Tryz.prog GL ok0 w0 L [str x] (J pre) fun v m'=>(v=boo true/\G (pre++[x])/\m'=J (pre++[x]))\/(v=boo false/\B (pre++[x]) m')) (hG:G []) (hl:s.length<=1000000000) {ok:Ok} {w:World} (hw:Stp ok0 w0 ok w) (hS:St (lent GL (cSeq gs gp gv s++J []) ok w) ok (cSeq gs gp gv s++J []) w) :
  Calls Tryz.prog 258 #[.func (.yield L) #[] #[],.pointer (some ⟨gp,0,none⟩),.pointer (some ⟨gs,0,none⟩),.pointer (some ⟨gv,0,none⟩)] w (Back (lent GL (cSeq gs gp gv s++J []) ok w) fun _ m'=>∃ r,(G (splS s)/\m'=cSeq gs gp gv r++J (splS s))\/∃ pre mx,pre <+: splS s/\B pre mx/\m'=cSeq gs gp gv r++mx):=by
 refine calls_enter (gl:=GL) (m:=cSeq gs gp gv s++J []) (args:=[yv L,ptr gp,ptr gs,ptr gv]) (cargs:=[.func (.yield L) #[] #[],.pointer (some ⟨gp,0,none⟩),.pointer (some ⟨gs,0,none⟩),.pointer (some ⟨gv,0,none⟩)]) Tryz.func258 rfl Tryz.ntmps258 rfl hS ⟨_,_,rfl,RV0.of_lit rfl,_,_,rfl,RV0.of_lit rfl,_,_,rfl,RV0.of_lit rfl,_,_,rfl,RV0.of_lit rfl,rfl⟩ ?_
 have hsw:Stp ok0 w0 (lent GL (cSeq gs gp gv s++J []) ok w).ok (lent GL (cSeq gs gp gv s++J []) ok w).w:=hw
 have hs:(lent GL (cSeq gs gp gv s++J []) ok w).gl=GL:=rfl
 generalize lent GL (cSeq gs gp gv s++J []) ok w=sB at hsw hs ⊢
 clear hS
 repeat' first|refine Yz ?_|intro _
 rw [dZ (show ¬ ((([47]:Bs).length:Nat):Int)=0 by decide)]
 repeat' first|refine Yz ?_|intro _
 refine ac_loop (α:=List Bs × Bs) (fun q=>[(0,yv L),(1,ptr gp),(2,ptr gs),(3,ptr gv)]) (fun q=>cSeq gs gp gv q.2++J q.1) (fun q=>splS s=q.1++splS q.2/\G q.1/\q.2.length<=s.length) (fun q=>q.2.length) ([],s) ⟨rfl,rfl,rfl,rfl,trivial⟩ slr ⟨rfl,hG,Nat.le_refl _⟩ ?_
 rintro⟨pre,r⟩ ⟨h1,h2,h3⟩
 dsimp only at h1 h2 h3 ⊢
 refine ac_block ?_
 repeat refine ac_seq ?_
 refine ac_region ?_
 repeat' (first|refine op1 ?_|refine op2 ?_|refine opL ?_|intro _|simp only [List.set]|fail)
 refine al_nil (ae_thenC ?_)
 repeat refine ac_seq ?_
 refine ac_region ?_
 repeat' (first|refine op1 ?_|refine op2 ?_|refine opL ?_|intro _|simp only [List.set]|fail)
 refine al_nil (ae_thenC ?_)
 repeat refine ac_seq ?_
 by_cases hi:ixS r < r.length
 ·have e1:ixI r=ixS r:=by unfold ixI;rw [if_pos hi]
  rw [e1]
  refine cdF ?_
  refine ac_skip ?_
  refine ae_thenC ?_
  repeat refine ac_seq ?_
  refine ac_region ?_
  have e2:splS s=pre++[r.take (ixS r)]++splS (r.drop (ixS r + 1)):=by rw [h1,splS_ix hi,laa];rfl
  repeat' (first|refine op1 ?_|refine op2 ?_|refine opL ?_|intro _|simp only [List.set]|fail)
  refine al_sliceS 0 (ixS r) ?_
  repeat' (first|refine op1 ?_|refine op2 ?_|refine opL ?_|intro _|simp only [List.set]|fail)
  refine al_nil (ae_thenC ?_)
  repeat refine ac_seq ?_
  refine ac_regionI ?_
  refine ai_pre (α:=Unit) (fun _=>[(39,yv L),(40,str (r.take (ixS r))),(7,int (ixS r)),(0,yv L),(1,ptr gp),(2,ptr gs),(3,ptr gv)]) (fun _=>cSeq gs gp gv r++J pre) ?_ (fun _=>?_) (pre:=[_,_])
  ·repeat' (first|refine op1 ?_|refine op2 ?_|refine opL ?_|intro _|simp only [List.set]|fail)
   exact al_nil (ae_cut () (by rw [List.drop_zero];exact⟨rfl,rfl,rfl,rfl,rfl,rfl,rfl,trivial⟩) slr)
  refine ai_yield (J pre) (cSeq gs gp gv r) (by rw [hs];exact hY pre _ h2 ⟨_,e2.symm⟩) hsw (fun v m1' hv=>?_) List.perm_append_comm
  refine ai_al ?_
  refine al_st (fun ok w hS=>hS.perm (m':=cSeq gs gp gv r++m1') List.perm_append_comm) ?_
  rcases hv with⟨rfl,h4,rfl⟩|⟨rfl,h4⟩
  rotate_left
  ·repeat' first|refine Yz ?_|intro _
   refine reK (cSeq gs gp gv r++m1') ⟨r,.inr ⟨_,m1',⟨_,e2.symm⟩,h4,rfl⟩⟩ slr
  have hl1:([47]:Bs).length=1:=rfl
  repeat' first|refine Yz ?_|intro _
  refine al_sliceS (ixS r + 1) r.length ?_
  rw [List.take_length]
  repeat' first|refine Yz ?_|intro _
  refine ae_round (pre++[r.take (ixS r)],r.drop (ixS r + 1)) ⟨rfl,rfl,rfl,rfl,trivial⟩ slr ⟨e2,h4,by simp;omega⟩ (by simp;omega)
 ·have e1:ixI r=-1:=by unfold ixI;rw [if_neg hi]
  have e2:splS s=pre++[r]:=by rw [h1,splS_no hi]
  rw [e1]
  refine cdT ?_
  refine ac_exit ?_
  repeat' (first|refine ae_thenX ?_|refine ae_blockX ?_|refine ae_blockO ?_|refine ae_thenC ?_)
  refine ac_regionI ?_
  refine ai_pre (α:=Unit) (fun _=>[(49,yv L),(50,str r)]) (fun _=>cSeq gs gp gv r++J pre) ?_ (fun _=>?_) (pre:=[_,_])
  ·repeat' (first|refine op1 ?_|refine op2 ?_|refine opL ?_|intro _|simp only [List.set]|fail)
   exact al_nil (ae_cut () ⟨rfl,rfl,trivial⟩ slr)
  refine ai_yield (J pre) (cSeq gs gp gv r) (by rw [hs];exact hY pre _ h2 (by rw [e2];exact List.prefix_refl _)) hsw (fun v m1' hv=>?_) List.perm_append_comm
  refine ai_nil ?_
  refine ae_st (fun ok w hS=>hS.perm (m':=cSeq gs gp gv r++m1') List.perm_append_comm) ?_
  rcases hv with⟨rfl,h4,rfl⟩|⟨rfl,h4⟩
  ·exact ae_ret rfl ress_nil (.inr rfl) ⟨r,.inl ⟨by rw [e2];exact h4,by rw [e2]⟩⟩ slr
  ·exact ae_ret rfl ress_nil (.inr rfl) ⟨r,.inr ⟨_,m1',by rw [e2];exact List.prefix_refl _,h4,rfl⟩⟩ slr
theorem each1 {x:Bs}{g:Nat}{n:Int}(_:x.length<=1000000000)(hn:0<=n/\n<=1000000000):Av.Spec Tryz.prog GL 160 [str x,ptr g] [.var g 3 (int n)] fun u m=>u=boo (partB x && decide (n + 1<=5))/\m=[.var g 3 (int (n + 1))]:=by
 refine qE Tryz.func160 rfl Tryz.ntmps160 rfl (fun _ hs=>?_)
 repeat' first|refine Yz ?_|intro _
 cases h:partB x
 ·repeat' first|refine Yz ?_|intro _
  refine reK _ ⟨rfl,rfl⟩ ?_
  exact sbl
 ·repeat' first|refine Yz ?_|intro _
  refine reK _ ⟨rfl,rfl⟩ ?_
  exact sbl
theorem perm5 {α:Type}{a:List α}{l n e r d:α}:(a++[l,n,e,r,d]++[]).Perm (l::d::(a++[e,r,n])):=by
 rw [List.append_nil]
 refine List.perm_append_comm.trans (List.Perm.trans ?_ (((List.perm_append_comm (l₁:=[e,r,n]) (l₂:=a)).cons d).cons l))
 refine List.Perm.cons _ ?_
 exact (List.Perm.swap e n _).trans (((List.Perm.swap r n _).cons e).trans ((((List.Perm.swap d n _).cons r).cons e).trans (((List.Perm.swap d r _).cons e).trans (List.Perm.swap d e _))))
set_option maxHeartbeats 2000000 in
instance fnTCheck {s:Bs}:Ans Tryz.prog GL 103 [str s] (s.length<=1000000000) (boo (denB s)):=⟨fun hl=>by
 refine spec_enterM Tryz.func103 rfl Tryz.ntmps103 rfl (fun sB hs=>?_)
 repeat' first|refine Yz ?_|intro _
 rename_i gn gr
 refine al_makeFunc (vs:=[.pointer (some ⟨gn,0,none⟩)]) ?_
 repeat' first|refine Yz ?_|intro _
 refine al_callK (args:=[str s,str [47]]) [] _ (by rw [hs];exact splitSeq_spec) (fun u m1 hh=>?_) lpr
 obtain⟨gs,gp,gv,rfl,rfl⟩:=hh
 repeat' first|refine Yz ?_|intro _
 rename_i ge
 have hG0:([]:List Bs).all partB=true/\([]:List Bs).length<=5:=⟨rfl,by decide⟩
 refine ac_rangeFunc (gf:=258) (lb:=[.pointer (some ⟨gp,0,none⟩),.pointer (some ⟨gs,0,none⟩),.pointer (some ⟨gv,0,none⟩)]) (by simp [Value.oneCell']) (fun ok w a fn hS ha ok1 w1 st1 hS1 ha1=>?_)
 generalize hr0:loopOf fn a _ _ _ w=r0 at hS1 ⊢
 have e1:r0.state=.ready:=by rw [<- hr0]
 have e2:r0.pending=none:=by rw [<- hr0]
 have e3:r0.tmps=a.tmps:=by rw [<- hr0]
 have e4:r0.params=#[13]:=by rw [<- hr0]
 have e5:{ { r0 with state:=.busy } with state:=.ready,pending:=none }=r0:=by rw [<- hr0]
 generalize hD:w.heap.size=D at hS1 ⊢
 have hS2:=hS1.perm (m':=(cSeq gs gp gv s++[.obj (D + 1) (.loop r0),.var gn 3 (int 0),.var ge 105 (fnv 160 [.pointer (some ⟨gn,0,none⟩)]),.var gr 4 (boo (decide (((s.length:Nat):Int)<=200))),.obj D (.deferred (some []))])++[]) perm5
 have hIt:=split_iter (ok0:=ok1) (w0:=w1) (L:=D + 1) (gs:=gs) (gp:=gp) (gv:=gv) (s:=s)
  (J:=fun pre=>[.obj (D + 1) (.loop r0),.var gn 3 (int pre.length),.var ge 105 (fnv 160 [.pointer (some ⟨gn,0,none⟩)]),.var gr 4 (boo (decide (((s.length:Nat):Int)<=200))),.obj D (.deferred (some []))])
  (G:=fun pre=>pre.all partB=true/\pre.length<=5)
  (B:=fun pre m'=>¬ (pre.all partB=true/\pre.length<=5)/\m'=[.obj (D + 1) (.loop { { r0 with state:=.busy } with state:=.done,pending:=some (.exit 0) }),.var gn 3 (int pre.length),.var ge 105 (fnv 160 [.pointer (some ⟨gn,0,none⟩)]),.var gr 4 (boo false),.obj D (.deferred (some []))])
  (fun pre x hG hpx=>?_) hG0 hl (Stp.refl _ _) (by rw [<- hs];exact hS2.lend)
 rotate_left
 ·have hxm:x ∈ splS s:=hpx.subset (by simp)
  have hxl:x.length<=1000000000:=Nat.le_trans (splS_part hxm) hl
  have e6:=congrArg Loop.assign hr0.symm
  have e7:=congrArg Loop.body hr0.symm
  dsimp only at e6 e7
  refine yld_of (N:=19) (p:=13) ha1 e3 e4 rfl (fun s2 hs2=>?_)
  rw [e6,e7]
  refine bc_region ?_
  repeat' (first|refine op1 ?_|refine op2 ?_|refine opL ?_|intro _|simp only []|fail)
  refine al_nil (be_begin lpr e1 ?_)
  refine bc_block (bc_seq (bc_region ?_))
  repeat' (first|refine op1 ?_|refine op2 ?_|refine opL ?_|intro _|simp only [List.set]|fail)
  refine al_callV (args:=[str x]) (cs:=[.pointer (some ⟨gn,0,none⟩)]) [.var gn 3 (int pre.length)] [.obj (D + 1) (.loop { r0 with state:=.busy }),.var ge 105 (fnv 160 [.pointer (some ⟨gn,0,none⟩)]),.var gr 4 (boo (decide (((s.length:Nat):Int)<=200))),.obj D (.deferred (some []))] (by rw [hs2];exact each1 hxl ⟨by omega,by have:=hG.2;omega⟩) (fun u m1 hh=>?_) (List.Perm.swap _ _ _)
  obtain⟨rfl,rfl⟩:=hh
  repeat' (first|refine op1 ?_|refine op2 ?_|refine opL ?_|intro _|simp only [List.set]|fail)
  refine al_nil (be_thenC (bc_condN (b:=partB x && decide (((pre.length:Nat):Int) + 1<=5)) rfl (fun hb=>?_) (fun hb=>?_)))
  ·refine bc_skip (ae_block (ae_roundN (r:={ r0 with state:=.busy }) (m1:=[.var gn 3 (int (((pre.length:Nat):Int) + 1)),.var ge 105 (fnv 160 [.pointer (some ⟨gn,0,none⟩)]),.var gr 4 (boo (decide (((s.length:Nat):Int)<=200))),.obj D (.deferred (some []))]) (List.Perm.swap _ _ _) (.inl ⟨rfl,?_,?_⟩)))
   ·rw [bet,decide_eq_true_iff] at hb
    rw [List.all_append,hG.1]
    refine⟨by simp [hb.1],?_⟩
    rw [lla,List.length_singleton]
    omega
   ·rw [e5,show (((pre++[x]).length:Nat):Int)=((pre.length:Nat):Int) + 1 by simp]
  ·refine bc_seq (bc_region ?_)
   repeat' (first|refine op1 ?_|refine op2 ?_|refine opL ?_|intro _|simp only [List.set]|fail)
   refine al_nil (be_thenC (bc_exit (ae_blockO (ae_roundX (r:={ r0 with state:=.busy }) (m1:=[.var gn 3 (int (((pre.length:Nat):Int) + 1)),.var ge 105 (fnv 160 [.pointer (some ⟨gn,0,none⟩)]),.var gr 4 (boo false),.obj D (.deferred (some []))]) (List.Perm.swap _ _ _) (.inr ⟨rfl,?_,?_⟩)))))
   ·rintro⟨h1,h2⟩
    rw [List.all_append,bet] at h1
    rw [lla,List.length_singleton] at h2
    have h3:partB x=true:=by simpa using h1.2
    rw [h3,Bool.true_and] at hb
    have:=of_decide_eq_false hb
    omega
   ·rw [show (((pre++[x]).length:Nat):Int)=((pre.length:Nat):Int) + 1 by simp]
    dsimp only
    rw [e6,e7]
 refine Calls.mono hIt fun x w2 hx=>?_
 obtain⟨v,m',ok',cv,⟨r,hK⟩,rfl,hv,hSt⟩:=hx
 have hSt':=hS2.back (fr:=[]) (by rw [hs];exact hSt)
 rw [List.append_nil] at hSt'
 have hmk:markOf w=[{ target:=.collected D,args:=#[] }]:=by rw [<- hD]
 rcases hK with⟨⟨g1,g2⟩,rfl⟩|⟨pre,mx,hp,⟨hn,rfl⟩,rfl⟩
 ·refine⟨cv,ok',r0,_,rfl,by rw [e1];decide,hSt'.perm List.perm_middle.symm,hSt.stp,fun ok3 w3 hS3 st3=>?_⟩
  rw [e2,hmk]
  dsimp only
  refine (?_:AED 19 [{ target:=.collected D,args:=#[] }] .normal _ sB _ _) ok3 w3 a hS3 (((ha.stp st1).stp hSt.stp).stp st3)
  refine aed_block ?_
  refine aed_thenC (acd_seq (acd_region (α:=Unit) (fun _=>[(2,boo (decide (((s.length:Nat):Int)<=200)))]) (fun _=>.obj (D + 1) (.loop { r0 with state:=.exhausted })::(cSeq gs gp gv r++[.var gn 3 (int (splS s).length),.var ge 105 (fnv 160 [.pointer (some ⟨gn,0,none⟩)]),.var gr 4 (boo (decide (((s.length:Nat):Int)<=200))),.obj D (.deferred (some []))])) ?_ (fun _=>?_)))
  ·repeat' (first|refine op1 ?_|refine op2 ?_|refine opL ?_|intro _|simp only [List.set]|fail)
   exact al_nil (ae_cut () ⟨rfl,trivial⟩ slr)
  refine aed_thenC (acd_ret (aed_noGotoR ?_))
  refine aed_retM (D:=D) (m1:=.obj (D + 1) (.loop { r0 with state:=.exhausted })::(cSeq gs gp gv r++[.var gn 3 (int (splS s).length),.var ge 105 (fnv 160 [.pointer (some ⟨gn,0,none⟩)]),.var gr 4 (boo (decide (((s.length:Nat):Int)<=200)))])) rfl ?_ (ress_cons (res_tmp rfl rfl) ress_nil) (.inl rfl) ⟨?_,rfl⟩ (List.nil_sublist _)
  ·exact List.perm_append_singleton _ (.obj (D + 1) (.loop { r0 with state:=.exhausted })::(cSeq gs gp gv r++[.var gn 3 (int (splS s).length),.var ge 105 (fnv 160 [.pointer (some ⟨gn,0,none⟩)]),.var gr 4 (boo (decide (((s.length:Nat):Int)<=200)))]))
  unfold denB
  rw [g1,dT g2]
  rw [show decide (((s.length:Nat):Int)<=200)=decide (s.length<=200) from decide_eq_decide.2 (by omega)]
  simp [outOf]
 ·refine⟨cv,ok',{ { r0 with state:=.busy } with state:=.done,pending:=some (.exit 0) },_,rfl,(fun h=>by cases h),hSt'.perm List.perm_middle.symm,hSt.stp,fun ok3 w3 hS3 st3=>?_⟩
  rw [hmk]
  refine wp_exit ?_
  refine inBlock_at ?_
  refine (?_:AED 19 [{ target:=.collected D,args:=#[] }] .normal _ sB _ _) ok3 w3 a hS3 (((ha.stp st1).stp hSt.stp).stp st3)
  refine aed_thenC (acd_seq (acd_region (α:=Unit) (fun _=>[(2,boo false)]) (fun _=>.obj (D + 1) (.loop { { { r0 with state:=.busy } with state:=.done,pending:=some (.exit 0) } with state:=.exhausted })::(cSeq gs gp gv r++[.var gn 3 (int pre.length),.var ge 105 (fnv 160 [.pointer (some ⟨gn,0,none⟩)]),.var gr 4 (boo false),.obj D (.deferred (some []))])) ?_ (fun _=>?_)))
  ·repeat' (first|refine op1 ?_|refine op2 ?_|refine opL ?_|intro _|simp only []|fail)
   exact al_nil (ae_cut () ⟨rfl,trivial⟩ slr)
  refine aed_thenC (acd_ret (aed_noGotoR ?_))
  refine aed_retM (D:=D) (m1:=.obj (D + 1) (.loop { { { r0 with state:=.busy } with state:=.done,pending:=some (.exit 0) } with state:=.exhausted })::(cSeq gs gp gv r++[.var gn 3 (int pre.length),.var ge 105 (fnv 160 [.pointer (some ⟨gn,0,none⟩)]),.var gr 4 (boo false)])) rfl ?_ (ress_cons (res_tmp rfl rfl) ress_nil) (.inl rfl) ⟨?_,rfl⟩ (List.nil_sublist _)
  ·exact List.perm_append_singleton _ (.obj (D + 1) (.loop { { { r0 with state:=.busy } with state:=.done,pending:=some (.exit 0) } with state:=.exhausted })::(cSeq gs gp gv r++[.var gn 3 (int pre.length),.var ge 105 (fnv 160 [.pointer (some ⟨gn,0,none⟩)]),.var gr 4 (boo false)]))
  have hd:denB s=false:=by
   by_cases h1:(splS s).all partB=true/\(splS s).length<=5
   ·refine (hn ⟨?_,Nat.le_trans hp.length_le h1.2⟩).elim
    rw [List.all_eq_true] at h1 ⊢
    exact fun y hy=>h1.1 y (hp.subset hy)
   ·unfold denB
    cases h2:(splS s).all partB
    ·simp
    ·have:¬ (splS s).length<=5:=fun h=>h1 ⟨h2,h⟩
     simp [this]
  rw [hd]
  rfl⟩

instance fnTHops {s:Bs}:Ans Tryz.prog GL 104 [str s] (s.length<=1000000000) (int (hopN s)):=⟨fun hl=>by
 refine qE Tryz.func104 rfl Tryz.ntmps104 rfl (fun _ hs=>?_)
 repeat' first|refine Vz ?_|intro _
 unfold hopN
 cases hb:denB s
 ·repeat' first|refine Vz ?_|intro _
  refine reE ?_
  rfl
 ·repeat' first|refine Vz ?_|intro _
  refine reE ?_
  rfl⟩
instance fnBName {s:Bs}:Ans Tryz.prog GL 163 [str s] True (boo (nameB s)):=⟨fun _=>by
 refine qE Tryz.func163 rfl Tryz.ntmps163 rfl (fun _ hs=>?_)
 repeat' first|refine Vz ?_|intro _
 unfold nameB
 rcases s with _|⟨c,s⟩
 ·repeat' first|refine Zz ?_|intro _
  refine reE ?_
  rfl
 ·repeat' first|refine Zz ?_|intro _
  refine reE ?_
  rw [decide_eq_decide.2 (show (1<=(c::s).length/\(c::s).length<=64)↔(((c::s).length:Int)<=64) by rw [List.length_cons];omega)]
  rfl⟩
instance fnBDenom {s:Bs}:Ans Tryz.prog GL 222 [str s] True (boo (dnmB s)):=⟨fun _=>by
 refine qE Tryz.func222 rfl Tryz.ntmps222 rfl (fun _ hs=>?_)
 repeat' first|refine Vz ?_|intro _
 unfold dnmB
 rcases s with _|⟨c,s⟩
 ·repeat' first|refine Zz ?_|intro _
  refine reE ?_
  rfl
 ·repeat' first|refine Zz ?_|intro _
  refine reE ?_
  rw [decide_eq_decide.2 (show (1<=(c::s).length/\(c::s).length<=200)↔(((c::s).length:Int)<=200) by rw [List.length_cons];omega)]
  rfl⟩
instance fnR11Name {s:Bs}:Ans Tryz.prog GL 34 [str s] True (boo (nameB s)):=⟨fun _=>by
 refine qE Tryz.func34 rfl Tryz.ntmps34 rfl (fun _ hs=>?_)
 repeat' first|refine Vz ?_|intro _
 unfold nameB
 by_cases h:1<=s.length
 ·repeat' first|refine Zz ?_|intro _
  refine reE ?_
  rw [decide_eq_decide.2 (show (1<=s.length/\s.length<=64)↔((s.length:Int)<=64) by omega)]
  rfl
 ·repeat' first|refine Zz ?_|intro _
  refine reE ?_
  rw [dZ (show ¬ (1<=s.length/\s.length<=64) by omega)]
  rfl⟩
instance fnR11Denom {s:Bs}:Ans Tryz.prog GL 35 [str s] True (boo (dnmB s)):=⟨fun _=>by
 refine qE Tryz.func35 rfl Tryz.ntmps35 rfl (fun _ hs=>?_)
 repeat' first|refine Vz ?_|intro _
 unfold dnmB
 by_cases h:1<=s.length
 ·repeat' first|refine Zz ?_|intro _
  refine reE ?_
  rw [decide_eq_decide.2 (show (1<=s.length/\s.length<=200)↔((s.length:Int)<=200) by omega)]
  rfl
 ·repeat' first|refine Zz ?_|intro _
  refine reE ?_
  rw [dZ (show ¬ (1<=s.length/\s.length<=200) by omega)]
  rfl⟩
instance fnPPlain {s:Bs}:Ans Tryz.prog GL 105 [str s] True (boo (plainB s)):=⟨fun _=>by
 refine qE Tryz.func105 rfl Tryz.ntmps105 rfl (fun _ hs=>?_)
 repeat' first|refine Vz ?_|intro _
 unfold plainB
 cases hb:nameB s
 ·repeat' first|refine Zz ?_|intro _
  refine reE ?_
  rw [Bool.and_false]
  rfl
 ·repeat' first|refine Zz ?_|intro _
  refine reE ?_
  rw [Bool.and_true,Bool.not_not]
  rfl⟩
instance fnEscrow {a:Bs}:Ans Tryz.prog GL 198 [str a] (a.length<=1000000000) (str (escB a)):=⟨fun h1=>by
 refine qE Tryz.func198 rfl Tryz.ntmps198 rfl (fun _ hs=>?_)
 repeat' first|refine Vz ?_|intro _
 refine reE ?_
 rfl⟩
theorem pre12_eq {c d:Bs}:pre12 c d=decide (d.take (c++[47]).length=c++[47]):=by
 unfold pre12
 rw [lla]
 rfl
instance fnReturns {c d:Bs}:Ans Tryz.prog GL 247 [str c,str d] (c.length<=1000000000/\d.length<=1000000000) (.tup [str (retT c d),boo (retB c d)]):=⟨fun hp=>by
 obtain⟨h1,h2⟩:=hp
 have hl:(c++[47]).length=c.length + 1:=by rw [lla];rfl
 have hdl:(d.drop (c.length + 1)).length<=1000000000:=by rw [List.length_drop];omega
 refine qE Tryz.func247 rfl Tryz.ntmps247 rfl (fun _ hs=>?_)
 unfold retT retB
 rw [pre12_eq]
 repeat' (first|refine ct1 ?_|refine op1 ?_|refine opL ?_|refine op2 ?_|intro _)
 rw [hl]
 by_cases h:d.take (c.length + 1)=c++[47]
 ·rw [if_pos h,dT h,dZ (nni h),Bool.true_and]
  repeat' first|refine Zz ?_|intro _
  cases hb:denB (d.drop (c.length + 1))
  ·repeat' first|refine Zz ?_|intro _
   refine reE ?_
   rfl
  ·repeat' first|refine Zz ?_|intro _
   refine reE ?_
   rfl
 ·rw [if_neg h,dZ h,dT h,Bool.false_and]
  repeat' first|refine Zz ?_|intro _
  refine reE ?_
  rfl⟩

set_option maxHeartbeats 2000000 in
instance fnRWAdd {a b:Wd}:Ans Tryz.prog GL 36 [widA a,widA b] True (.tup [widA (wOf (a.n + b.n)),boo (wIs (a.n + b.n))]):=⟨fun _=>by
 have hla:=dgs_len a.n 32
 have hlb:=dgs_len b.n 32
 refine qE Tryz.func36 rfl Tryz.ntmps36 rfl (fun _ hs=>?_)
 repeat' first|refine Vz ?_|intro _
 rename_i g2 g3 g4
 refine ac_as 8 (Imp.nil (k:=1)) ?_
 refine ac_st (fun ok w h=>h.full 3 1 none 0) ?_
 refine ac_loop (α:=Nat × Value) (fun q=>[(4,ptr g4),(6,.sl 1 (dI (dgs a.n 32)) none),(7,.sl 1 (dI (dgs b.n 32)) none),(8,.sl 1 (dI (dgs (a.n + b.n) q.1)) (some q.2)),(9,int (cry a.n b.n q.1)),(10,int q.1)]) (fun q=>[.tail 3 1 q.2,.var g4 45 (widN 0)]) (fun q=>q.1<=32) (fun q=>32 - q.1) (0,.slice none 0 0) ⟨rfl,rfl,rfl,rfl,?_,rfl,trivial⟩ (by repeat (first|exact List.nil_sublist _|exact List.Sublist.refl _|apply List.Sublist.cons_cons|apply List.Sublist.cons)) (Nat.zero_le _) ?_
 ·rw [cry0]
  rfl
 rintro⟨i,v⟩ hi
 dsimp only at hi ⊢
 have hm:(dI (dgs (a.n + b.n) i)).length=i:=by rw [dI_len,dgs_len]
 have hm2:=dgs_len (a.n + b.n) i
 have c1:=(add_dg a.n b.n i).1
 repeat' first|refine Vz ?_|intro _
 refine ac_cond (fun hlt=>?_) (fun hlt=>?_)
 ·have hka:i < (dgs a.n 32).length:=by omega
  have hkb:i < (dgs b.n 32).length:=by omega
  have ea:=dgs_get hka
  have eb:=dgs_get hkb
  have da:=dg_lt a.n i
  have db:=dg_lt b.n i
  have e1:True->(((dgs a.n 32)[i].toNat:Int) + ((dgs b.n 32)[i].toNat:Int) + (cry a.n b.n i:Int)) % 256=((dg (a.n + b.n) i:Nat):Int):=fun _=>by
   obtain⟨c1,c2,c3⟩:=add_dg a.n b.n i
   omega
  have e2:True->(((dgs a.n 32)[i].toNat:Int) + ((dgs b.n 32)[i].toNat:Int) + (cry a.n b.n i:Int)) / 256=((cry a.n b.n (i + 1):Nat):Int):=fun _=>by
   obtain⟨c1,c2,c3⟩:=add_dg a.n b.n i
   omega
  repeat' first|refine Vz ?_|intro _
  rw [e1 trivial]
  repeat' first|refine Vz ?_|intro _
  refine al_append (fun v'=>?_)
  repeat' first|refine Vz ?_|intro _
  rw [e2 trivial,<- dgs_snoc]
  refine ae_round (i + 1,v') ⟨rfl,rfl,rfl,rfl,rfl,rfl,trivial⟩ ?_ (by dsimp only;omega) (by dsimp only;omega)
  exact sbl
 ·obtain rfl:i=32:=by omega
  have hall:=add_all a b
  generalize cry a.n b.n 32=c at *
  have e3:dI (dgs (a.n + b.n) 32)++[int (c:Int)]=dI (dgs (a.n + b.n) 32++[UInt8.ofNat c]):=by
   have h1:(UInt8.ofNat c).toNat=c:=by
    rw [UInt8.toNat_ofNat']
    exact Nat.mod_eq_of_lt (by omega)
   rw [dI_snoc,h1]
  have hlen:(dgs (a.n + b.n) 32++[UInt8.ofNat c]).length=32\/(dgs (a.n + b.n) 32++[UInt8.ofNat c]).length=33:=.inr (by rw [lla,dgs_len];rfl)
  generalize dgs (a.n + b.n) 32=D at *
  generalize hX:D++[UInt8.ofNat c]=X at *
  repeat' first|refine Vz ?_|intro _
  refine al_append (fun v'=>?_)
  rw [e3]
  repeat' first|refine Vz ?_|intro _
  refine reE ?_
  rw [hall]
  rfl⟩

theorem tlvI_len (c:Int)(n:Int):(tlvI c n).length<=16777219:=(inferInstance:LenLe (tlvI c n) 16777219).out
instance fnKOf {k i:Bs}:Ans Tryz.prog GL 57 [str k,str i] (k.length<=1000000000) (str (kyO k i)):=⟨fun h=>by
 refine qE Tryz.func57 rfl Tryz.ntmps57 rfl (fun _ hs=>?_)
 have hl:=tlvT_len 105 i
 repeat' first|refine Vz ?_|intro _
 refine reE ?_
 rfl⟩
instance fnKWith {k i:Bs}{n:Int}:Ans Tryz.prog GL 199 [str k,str i,int n] (k.length<=1000000000/\n<=9223372036854775807) (str (kyW k i n)):=⟨fun h=>by
 obtain⟨h1,h2⟩:=h
 have hl:=tlvT_len 105 i
 have hl2:(kyO k i).length<=2000000000:=by unfold kyO;rw [lla];omega
 have hl3:=tlvI_len 113 n
 refine qE Tryz.func199 rfl Tryz.ntmps199 rfl (fun _ hs=>?_)
 repeat' first|refine Vz ?_|intro _
 refine reE ?_
 rfl⟩
instance fnKClient {i:Bs}:Ans Tryz.prog GL 113 [str i] True (str (kyO [67] i)):=⟨fun _=>by
 refine qE Tryz.func113 rfl Tryz.ntmps113 rfl (fun _ hs=>?_)
 repeat' first|refine Vz ?_|intro _
 refine reE ?_
 rfl⟩
instance fnKConn {i:Bs}:Ans Tryz.prog GL 28 [str i] True (str (kyO [75] i)):=⟨fun _=>by
 refine qE Tryz.func28 rfl Tryz.ntmps28 rfl (fun _ hs=>?_)
 repeat' first|refine Vz ?_|intro _
 refine reE ?_
 rfl⟩
instance fnKChan {i:Bs}:Ans Tryz.prog GL 26 [str i] True (str (kyO [72] i)):=⟨fun _=>by
 refine qE Tryz.func26 rfl Tryz.ntmps26 rfl (fun _ hs=>?_)
 repeat' first|refine Vz ?_|intro _
 refine reE ?_
 rfl⟩
instance fnKNext {i:Bs}:Ans Tryz.prog GL 127 [str i] True (str (kyO [78] i)):=⟨fun _=>by
 refine qE Tryz.func127 rfl Tryz.ntmps127 rfl (fun _ hs=>?_)
 repeat' first|refine Vz ?_|intro _
 refine reE ?_
 rfl⟩
instance fnKSent {i:Bs}{n:Int}:Ans Tryz.prog GL 125 [str i,int n] (n<=9223372036854775807) (str (kyW [80] i n)):=⟨fun h=>by
 refine qE Tryz.func125 rfl Tryz.ntmps125 rfl (fun _ hs=>?_)
 repeat' first|refine Vz ?_|intro _
 refine reE ?_
 rfl⟩
instance fnKNumber {n:Int}:Ans Tryz.prog GL 128 [int n] (n<=9223372036854775807) (str (tlvI 110 n)):=⟨fun h=>by
 refine qE Tryz.func128 rfl Tryz.ntmps128 rfl (fun _ hs=>?_)
 repeat' first|refine Vz ?_|intro _
 refine reE ?_
 rfl⟩
theorem reE_10 {s:Bs}{b:Bool}(h:reE' s b≠0):reE' s b=10:=by
 unfold reE' at h ⊢
 split at h <;> simp_all
instance fnKRead {s:Bs}:Ans Tryz.prog GL 189 [str s] (s.length<=1000000000) (.tup [int (knV s),int (knE s)]):=⟨fun hl=>by
 refine qE Tryz.func189 rfl Tryz.ntmps189 rfl (fun _ hs=>?_)
 repeat' first|refine Vz ?_|intro _
 refine al_callK (args:=[str s]) [] _ (by rw [hs];exact tlvRead) (fun u m1 hh=>?_) lpr
 obtain⟨gr,rfl,rfl⟩:=hh
 repeat' first|refine Vz ?_|intro _
 refine ac_cond (fun h=>?_) (fun h=>?_)
 ·repeat' first|refine Vz ?_|intro _
  refine reE ?_
  have h2:knE s=10:=reE_10 h
  unfold knV
  rw [h2]
  rfl
 ·repeat' first|refine Vz ?_|intro _
  refine reE ?_
  have h1:knE s=0:=Classical.not_not.1 h
  unfold knV
  rw [h1]
  rfl⟩
instance fnR16Of {k i:Bs}:Ans Tryz.prog GL 20 [str k,str i] (k.length<=1000000000) (str (kyO k i)):=⟨fun h=>by
 have hl:=tlvT_len 105 i
 refine qE Tryz.func20 rfl Tryz.ntmps20 rfl (fun _ hs=>?_)
 repeat' first|refine Vz ?_|intro _
 refine reE ?_
 rfl⟩
instance fnR16With {k i:Bs}{n:Int}:Ans Tryz.prog GL 89 [str k,str i,int n] (k.length<=1000000000/\n<=9223372036854775807) (str (kyW k i n)):=⟨fun h=>by
 obtain⟨h1,h2⟩:=h
 have hl:=tlvT_len 105 i
 have hl2:(kyO k i).length<=2000000000:=by unfold kyO;rw [lla];omega
 have hl3:=tlvI_len 113 n
 refine qE Tryz.func89 rfl Tryz.ntmps89 rfl (fun _ hs=>?_)
 repeat' first|refine Vz ?_|intro _
 refine reE ?_
 rfl⟩
theorem within {n l:Int}:Ans Tryz.prog GL 190 [int n,int l] True (boo (decide (l<=n/\n<=1099511627776))):=⟨fun _=>by
 refine qE Tryz.func190 rfl Tryz.ntmps190 rfl (fun _ hs=>?_)
 repeat' first|refine Vz ?_|intro _
 refine gu1 (fun h=>?_) (fun h=>?_)
 ·repeat' first|refine Vz ?_|intro _
  refine reE ?_
  rw [decide_eq_decide.2 (show (l<=n/\n<=1099511627776)↔(n<=1099511627776) by omega)]
  rfl
 ·repeat' first|refine Vz ?_|intro _
  refine reE ?_
  rw [dZ (show ¬ (l<=n/\n<=1099511627776) by omega)]
  rfl⟩
instance {n l:Int}:Ans Tryz.prog GL 190 [int n,int l] True (boo (decide (l<=n/\n<=1099511627776))):=within
def chkN (x:Pkt):Int:=if chkP x=true then 0 else 1
theorem chkN_no {x:Pkt}(h:numsP x=false\/namsP x=false\/coinP x=false):chkN x=1:=by
 unfold chkN chkP
 rcases h with h|h|h <;> rw [h] <;> simp
theorem chkN_yes {x:Pkt}(h1:numsP x=true)(h2:namsP x=true)(h3:coinP x=true):chkN x=0:=by
 unfold chkN chkP
 rw [h1,h2,h3]
 rfl
theorem numsP_no {q h t:Int}{s k d f g:Bs}{a:Wd}(e:¬ (1<=q/\q<=1099511627776)\/¬ (0<=h/\h<=1099511627776)\/¬ (0<=t/\t<=1099511627776)\/(h=0/\t=0)):chkN ⟨q,s,k,d,a,f,g,h,t⟩=1:=chkN_no (.inl (dZ (fun e2=>by simp only at e2;omega)))
theorem namsP_no {q h t:Int}{s k d f g:Bs}{a:Wd}(e:partB s=false\/partB k=false\/denB d=false):chkN ⟨q,s,k,d,a,f,g,h,t⟩=1:=chkN_no (.inr (.inl (by
 unfold namsP
 rcases e with e|e|e <;> simp [e])))
theorem coinP_no {q h t:Int}{s k d f g:Bs}{a:Wd}(e:a.n=0\/plainB f=false\/plainB g=false):chkN ⟨q,s,k,d,a,f,g,h,t⟩=1:=chkN_no (.inr (.inr (by
 unfold coinP
 rcases e with e|e|e <;> simp [e])))
theorem chkN_all {q h t:Int}{s k d f g:Bs}{a:Wd}(h1:1<=q/\q<=1099511627776)(h2:0<=h/\h<=1099511627776)(h3:0<=t/\t<=1099511627776)(h4:¬ (h=0/\t=0))(p1:partB s=true)(p2:partB k=true)(p3:denB d=true)(z:¬ a.n=0)(c1:plainB f=true)(c2:plainB g=true):chkN ⟨q,s,k,d,a,f,g,h,t⟩=0:=
 chkN_yes (dT (by simp only;omega)) (by unfold namsP;simp [p1,p2,p3]) (by unfold coinP;simp [z,c1,c2])
set_option maxHeartbeats 4000000 in
instance fnPCheck {q:Int}{s k d:Bs}{a:Wd}{f g:Bs}{h t:Int}:Ans Tryz.prog GL 121 [.agg 12 [int q,str s,str k,.agg 7 [str d,widA a,str f,str g],int h,int t]] (d.length<=1000000000) (int (chkN ⟨q,s,k,d,a,f,g,h,t⟩)):=⟨fun hd=>by
 refine qE Tryz.func121 rfl Tryz.ntmps121 rfl (fun _ hs=>?_)
 by_cases h1:1<=q/\q<=1099511627776
 rotate_left
 ·repeat' first|refine Zz ?_|intro _
  refine reE ?_
  rw [numsP_no (.inl h1)]
  rfl
 by_cases h2:0<=h/\h<=1099511627776
 rotate_left
 ·repeat' first|refine Zz ?_|intro _
  refine reE ?_
  rw [numsP_no (.inr (.inl h2))]
  rfl
 by_cases h3:0<=t/\t<=1099511627776
 rotate_left
 ·repeat' first|refine Zz ?_|intro _
  refine reE ?_
  rw [numsP_no (.inr (.inr (.inl h3)))]
  rfl
 by_cases h4:h=0/\t=0
 ·repeat' first|refine Zz ?_|intro _
  refine reE ?_
  rw [numsP_no (.inr (.inr (.inr h4)))]
  rfl
 repeat' first|refine Zz ?_|intro _
 by_cases h5:h=0
 all_goals
  repeat' first|refine Zz ?_|intro _
  cases p1:partB s
  focus
   repeat' first|refine Zz ?_|intro _
   refine reE ?_
   rw [namsP_no (.inl p1)]
   rfl
  repeat' first|refine Zz ?_|intro _
  cases p2:partB k
  focus
   repeat' first|refine Zz ?_|intro _
   refine reE ?_
   rw [namsP_no (.inr (.inl p2))]
   rfl
  repeat' first|refine Zz ?_|intro _
  cases p3:denB d
  focus
   repeat' first|refine Zz ?_|intro _
   refine reE ?_
   rw [namsP_no (.inr (.inr p3))]
   rfl
  repeat' first|refine Zz ?_|intro _
  by_cases z:a.n=0
  focus
   repeat' first|refine Zz ?_|intro _
   refine reE ?_
   rw [coinP_no (.inl z)]
   rfl
  repeat' first|refine Zz ?_|intro _
  cases c1:plainB f
  focus
   repeat' first|refine Zz ?_|intro _
   refine reE ?_
   rw [coinP_no (.inr (.inl c1))]
   rfl
  repeat' first|refine Zz ?_|intro _
  cases c2:plainB g
  focus
   repeat' first|refine Zz ?_|intro _
   refine reE ?_
   rw [coinP_no (.inr (.inr c2))]
   rfl
  repeat' first|refine Zz ?_|intro _
  refine reE ?_
  rw [chkN_all h1 h2 h3 h4 p1 p2 p3 z c1 c2]
  rfl⟩

instance {x:Pkt}:LenLe (pktB x) 150994971:=by unfold pktB;infer_instance
instance {n:Nat}:LenLe (beB n) 32:=⟨Nat.le_of_eq (beB_len n)⟩
instance fnPkBytes {q:Int}{s k d:Bs}{a:Wd}{f g:Bs}{h t:Int}:Ans Tryz.prog GL 202 [.agg 12 [int q,str s,str k,.agg 7 [str d,widA a,str f,str g],int h,int t]] (q<=9223372036854775807/\h<=9223372036854775807/\t<=9223372036854775807) (str (pktB ⟨q,s,k,d,a,f,g,h,t⟩)):=⟨fun hp=>by
 obtain⟨h1,h2,h3⟩:=hp
 refine qE Tryz.func202 rfl Tryz.ntmps202 rfl (fun _ hs=>?_)
 repeat' first|refine Vz ?_|intro _
 refine reE ?_
 rfl⟩
theorem ofH_two (a b:Bs):ofH [a,b]=shaH (a++b):=by
 unfold ofH
 simp
instance fnCommit {q:Int}{s k d:Bs}{a:Wd}{f g:Bs}{h t:Int}:Ans Tryz.prog GL 126 [.agg 12 [int q,str s,str k,.agg 7 [str d,widA a,str f,str g],int h,int t]] (q<=9223372036854775807/\h<=9223372036854775807/\t<=9223372036854775807) (str (comP ⟨q,s,k,d,a,f,g,h,t⟩)):=⟨fun hp=>by
 refine qE Tryz.func126 rfl Tryz.ntmps126 rfl (fun _ hs=>?_)
 repeat' first|refine Vz ?_|intro _
 refine reE ?_
 rw [ofH_two]
 rfl⟩
instance fnRFailed {e:Int}:Ans Tryz.prog GL 91 [int e] (0<=e/\e < 256) (str (failB e)):=⟨fun he=>by
 obtain⟨n,rfl⟩:=Int.eq_ofNat_of_zero_le he.1
 refine qE Tryz.func91 rfl Tryz.ntmps91 rfl (fun _ hs=>?_)
 repeat' first|refine Vz ?_|intro _
 refine reE ?_
 rw [u8ofInt]
 rfl⟩
theorem lateP_eq (x:Pkt)(h t:Int):lateP x h t=(decide (x.h≠0/\x.h<=h) || decide (x.t≠0/\x.t<=t)):=by
 unfold lateP
 rw [Bool.decide_or]
set_option maxHeartbeats 2000000 in
instance fnLate {q:Int}{s k d:Bs}{a:Wd}{f g:Bs}{h t h' t':Int}:Ans Tryz.prog GL 123 [.agg 12 [int q,str s,str k,.agg 7 [str d,widA a,str f,str g],int h,int t],int h',int t'] True (boo (lateP ⟨q,s,k,d,a,f,g,h,t⟩ h' t')):=⟨fun _=>by
 refine qE Tryz.func123 rfl Tryz.ntmps123 rfl (fun _ hs=>?_)
 repeat' first|refine Vz ?_|intro _
 refine ac_loop (α:=Nat) (fun i=>[(20,.agg 4 [.agg 2 [int h,int h'],.agg 2 [int t,int t']]),(21,int i),(8,boo false)]) (fun i=>[]) (fun i=>i<=2/\(1<=i->¬ (h≠0/\h<=h'))/\(2<=i->¬ (t≠0/\t<=t'))) (fun i=>2 - i) 0 ⟨rfl,rfl,rfl,trivial⟩ (List.nil_sublist _) ⟨by decide,fun h=>absurd h (by decide),fun h=>absurd h (by decide)⟩ ?_
 rintro i ⟨hi,f1,f2⟩
 rcases i with _|_|_|i
 ·repeat' first|refine Zz ?_|intro _
  refine al_index (ps:=[.agg 2 [int h,int h'],.agg 2 [int t,int t']]) (u:=.agg 2 [int h,int h']) 0 ?_ rfl (by decide) rfl (by intro p hp;simp at hp;rcases hp with rfl|rfl <;> rfl) rfl
  by_cases h1:h=0
  ·repeat' first|refine Zz ?_|intro _
   refine ae_round 1 ⟨rfl,rfl,rfl,trivial⟩ (List.nil_sublist _) ⟨by decide,fun _ e=>e.1 h1,fun h=>absurd h (by decide)⟩ (by decide)
  ·by_cases h2:h<=h'
   ·rw [lateP_eq,dT (show h≠0/\h<=h' from ⟨h1,h2⟩),Bool.true_or]
    repeat' first|refine Zz ?_|intro _
    refine reE ?_
    rw [dT h2]
    rfl
   ·repeat' first|refine Zz ?_|intro _
    rw [dZ h2]
    refine ae_round 1 ⟨rfl,rfl,rfl,trivial⟩ (List.nil_sublist _) ⟨by decide,fun _ e=>h2 e.2,fun h=>absurd h (by decide)⟩ (by decide)
 ·repeat' first|refine Zz ?_|intro _
  refine al_index (ps:=[.agg 2 [int h,int h'],.agg 2 [int t,int t']]) (u:=.agg 2 [int t,int t']) 1 ?_ rfl (by decide) rfl (by intro p hp;simp at hp;rcases hp with rfl|rfl <;> rfl) rfl
  by_cases h1:t=0
  ·repeat' first|refine Zz ?_|intro _
   refine ae_round 2 ⟨rfl,rfl,rfl,trivial⟩ (List.nil_sublist _) ⟨by decide,fun _=>f1 (by decide),fun _ e=>e.1 h1⟩ (by decide)
  ·by_cases h2:t<=t'
   ·rw [lateP_eq,dT (show t≠0/\t<=t' from ⟨h1,h2⟩),Bool.or_true]
    repeat' first|refine Zz ?_|intro _
    refine reE ?_
    rw [dT h2]
    rfl
   ·repeat' first|refine Zz ?_|intro _
    rw [dZ h2]
    refine ae_round 2 ⟨rfl,rfl,rfl,trivial⟩ (List.nil_sublist _) ⟨by decide,fun _=>f1 (by decide),fun _ e=>h2 e.2⟩ (by decide)
 ·have e1:=f1 (by decide)
  have e2:=f2 (by decide)
  rw [lateP_eq,dZ e1,dZ e2]
  repeat' first|refine Zz ?_|intro _
  refine reE ?_
  rfl
 ·omega⟩

end Go.Proofs.YtlkkekpcofjbeaaGreatDoor
