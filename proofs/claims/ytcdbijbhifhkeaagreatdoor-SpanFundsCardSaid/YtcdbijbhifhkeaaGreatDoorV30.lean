/- . -/
import Derived.Test.YtcdbijbhifhkeaaGreatDoorV29
set_option maxHeartbeats 64000000
namespace Go.Proofs.Z
open Go Go.RowKit Tw Av Go.Proofs.Tryz
section
variable {s:Bs}
theorem Fb {N:Nat}{Q:Exit->Act->World->Prop}{s:Av.Base}{e:Av.Env}{m:List Av.Piece}{ds:List Deferred}(h:AED N ds .ret Q s e m):AED N ds .ret (Exit.noGoto Q) s e m:=h
theorem b1u {P:Program}{N L:Nat}{Q:Exit->Act->World->Prop}{s:Av.Base}{e:Av.Env}{m:List Av.Piece}{c:Operand}{x y:Code}{b:Bool}(hc:Av.ev e c=some (.lit (.bool (!b))))(h1:b=true->BC P N L y Q s e m)(h2:b=false->BC P N L x Q s e m):BC P N L (.cond c x y) Q s e m:=by
 cases b
 ·exact LD (h2 rfl) hc
 exact LF (h1 rfl) hc
theorem a7e {Q:Exit->Act->World->Prop}{id:Nat}{a:Act}{w:World}(h:Q .normal a w):Exit.inBlock id Q (.exit id) a w:=by
 simp only[Exit.inBlock,if_true];exact h
theorem Qx :dX (47::s)=0:=by
 unfold dX;rw[List.findIdx_cons];rfl
theorem Qw {c:UInt8}(h:c≠47):dX (c::s)=dX s+1:=by
 unfold dX;rw[List.findIdx_cons,dZ h];rfl
theorem Hw:∀ {s:Bs},dX s<s.length->Y5 s=s.take (dX s)::Y5 (s.drop (dX s+1))
 | [],h=>by simp at h
 | c::s,h=>by
  by_cases hc:c=47
  ·subst hc;rw[Qx,Y5,if_pos rfl];rfl
  rw[Qw hc] at h ⊢;rw[Y5,if_neg hc,Hw (s:=s) (by simpa using h)];rfl
theorem Hu:∀ {s:Bs},¬ dX s<s.length->Y5 s=[s]
 | [],_=>rfl
 | c::s,h=>by
  by_cases hc:c=47
  ·subst hc;rw[Qx] at h;simp at h
  rw[Qw hc] at h;rw[Y5,if_neg hc,Hu (s:=s) (by simpa using h)];rfl
abbrev dF (gs gp gv:Nat)(s:Bs):List Av.Piece:=[.var gv 3 (int 0),.var gp 9 (str [47]),.var gs 9 (str s)]
theorem a2r :Av.Spec prog GL 313 [str s,str [47]] [] λu m=>∃ gs gp gv,u=F3 371 [.pointer (some ⟨gp,0,none⟩),.pointer (some ⟨gs,0,none⟩),.pointer (some ⟨gv,0,none⟩)]/\m=dF gs gp gv s:=by
 have h1:Av.Spec prog GL 347 [str s,str [47],int 0] [] λu m=>∃ gs gp gv,u=F3 371 [.pointer (some ⟨gp,0,none⟩),.pointer (some ⟨gs,0,none⟩),.pointer (some ⟨gv,0,none⟩)]/\m=dF gs gp gv s:=by
  refine zc func347 ntmps347 λ_ hs=>?_;repeat' first|refine Vz ?_|intro
  rename_i gs gp gv;refine Z0 (vs:=[.pointer (some ⟨gp,0,none⟩),.pointer (some ⟨gs,0,none⟩),.pointer (some ⟨gv,0,none⟩)]) ?_;repeat' first|refine Vz ?_|intro
  refine j4 _ ⟨gs,gp,gv,rfl,rfl⟩ ?_;exact List.Sublist.refl _
 refine zc func313 ntmps313 λ_ hs=>?_;repeat' first|refine Vz ?_|intro
 refine J6 (args:=[str s,str [47],int 0]) [] _ (by rw[hs];exact h1) (λu m1 hh=>?_) lpr;obtain⟨gs,gp,gv,rfl,rfl⟩:=hh;repeat' first|refine Vz ?_|intro
 refine j4 _ ⟨gs,gp,gv,rfl,rfl⟩ ?_;exact A8
theorem a2q {ok0:Ok}{w0:World}{L gs gp gv:Nat}{J:List Bs->List Av.Piece}{G:List Bs->Prop}{B:List Bs->List Av.Piece->Prop}
  (hY:∀ pre x,G pre->pre++[x] <+: Y5 s->Yld prog GL ok0 w0 L [str x] (J pre) λv m'=>(v=d9 true/\G (pre++[x])/\m'=J (pre++[x]))\/(v=d9 false/\B (pre++[x]) m')) (hG:G []) (hl:s.length<=1000000000) {ok:Ok} {w:World} (hw:Stp ok0 w0 ok w) (hS:St (X3 GL (dF gs gp gv s++J []) ok w) ok (dF gs gp gv s++J []) w) :
  Calls prog 371 #[.func (.yield L) #[] #[],.pointer (some ⟨gp,0,none⟩),.pointer (some ⟨gs,0,none⟩),.pointer (some ⟨gv,0,none⟩)] w (Back (X3 GL (dF gs gp gv s++J []) ok w) λ_ m'=>∃ r,(G (Y5 s)/\m'=dF gs gp gv r++J (Y5 s))\/∃ pre mx,pre <+: Y5 s/\B pre mx/\m'=dF gs gp gv r++mx):=by
 refine Ye (gl:=GL) (m:=dF gs gp gv s++J []) (args:=[yv L,ptr gp,ptr gs,ptr gv]) (cargs:=[.func (.yield L) #[] #[],.pointer (some ⟨gp,0,none⟩),.pointer (some ⟨gs,0,none⟩),.pointer (some ⟨gv,0,none⟩)]) func371 rfl ntmps371 rfl hS ⟨_,_,rfl,RV0.of_lit rfl,_,_,rfl,RV0.of_lit rfl,_,_,rfl,RV0.of_lit rfl,_,_,rfl,RV0.of_lit rfl,rfl⟩ ?_;have hsw:Stp ok0 w0 (X3 GL (dF gs gp gv s++J []) ok w).ok (X3 GL (dF gs gp gv s++J []) ok w).w:=hw;have hs:(X3 GL (dF gs gp gv s++J []) ok w).gl=GL:=rfl;generalize X3 GL (dF gs gp gv s++J []) ok w=sB at hsw hs ⊢;clear hS;repeat' first|refine Yz ?_|intro
 rw[dZ (show ¬ ((([47]:Bs).length:Nat):Int)=0 by decide)];repeat' first|refine Yz ?_|intro
 refine H7 (α:=List Bs × Bs) (λq=>[(0,yv L),(1,ptr gp),(2,ptr gs),(3,ptr gv)]) (λq=>dF gs gp gv q.2++J q.1) (λq=>Y5 s=q.1++Y5 q.2/\G q.1/\q.2.length<=s.length) (λq=>q.2.length) ([],s) za slr ⟨rfl,hG,Nat.le_refl _⟩ ?_;rintro⟨pre,r⟩ ⟨h1,h2,h3⟩;dsimp only at h1 h2 h3 ⊢;refine Fu ?_;repeat refine yK ?_
 refine LW ?_;repeat' (first|refine M8 ?_|refine L8 ?_|refine Q4 ?_|intro _|simp only[List.set]|fail)
 refine j5 (BS ?_);repeat refine yK ?_
 refine LW ?_;repeat' (first|refine M8 ?_|refine L8 ?_|refine Q4 ?_|intro _|simp only[List.set]|fail)
 refine j5 (BS ?_);repeat refine yK ?_
 by_cases hi:dX r<r.length
 ·have e1:uV r=dX r:=by unfold uV;rw[if_pos hi]
  rw[e1];refine EN ?_;refine Fh ?_;refine BS ?_;repeat refine yK ?_
  refine LW ?_;have e2:Y5 s=pre++[r.take (dX r)]++Y5 (r.drop (dX r+1)):=by rw[h1,Hw hi,laa];rfl
  repeat' (first|refine M8 ?_|refine L8 ?_|refine Q4 ?_|intro _|simp only[List.set]|fail)
  refine dG 0 (dX r) ?_;repeat' (first|refine M8 ?_|refine L8 ?_|refine Q4 ?_|intro _|simp only[List.set]|fail)
  refine j5 (BS ?_);repeat refine yK ?_
  refine Fj ?_;refine Fa (α:=Unit) (λ_=>[(39,yv L),(40,str (r.take (dX r))),(7,int (dX r)),(0,yv L),(1,ptr gp),(2,ptr gs),(3,ptr gv)]) (λ_=>dF gs gp gv r++J pre) ?_ (λ_=>?_) (pre:=[_,_])
  ·repeat' (first|refine M8 ?_|refine L8 ?_|refine Q4 ?_|intro _|simp only[List.set]|fail)
   exact j5 (P9 () (by rw[List.drop_zero];exact za) slr)
  refine Ez (J pre) (dF gs gp gv r) (by rw[hs];exact hY pre _ h2 ⟨_,e2.symm⟩) hsw (λv m1' hv=>?_) List.perm_append_comm;refine a0T ?_;refine lC (λok w hS=>hS.perm (m':=dF gs gp gv r++m1') List.perm_append_comm) ?_;rcases hv with⟨rfl,h4,rfl⟩|⟨rfl,h4⟩
  rotate_left
  ·repeat' first|refine Yz ?_|intro
   refine j4 (dF gs gp gv r++m1') ⟨r,.inr ⟨_,m1',⟨_,e2.symm⟩,h4,rfl⟩⟩ slr
  have hl1:([47]:Bs).length=1:=rfl;repeat' first|refine Yz ?_|intro
  refine dG (dX r+1) r.length ?_;rw[List.take_length];repeat' first|refine Yz ?_|intro
  refine y7 (pre++[r.take (dX r)],r.drop (dX r+1)) za slr ⟨e2,h4,by simp;omega⟩ (by simp;omega)
 have e1:uV r=-1:=by unfold uV;rw[if_neg hi]
 have e2:Y5 s=pre++[r]:=by rw[h1,Hu hi]
 rw[e1];refine zO ?_;refine a0U ?_;repeat' (first|refine VL ?_|refine VM ?_|refine Ff ?_|refine BS ?_)
 refine Fj ?_;refine Fa (α:=Unit) (λ_=>[(49,yv L),(50,str r)]) (λ_=>dF gs gp gv r++J pre) ?_ (λ_=>?_) (pre:=[_,_])
 ·repeat' (first|refine M8 ?_|refine L8 ?_|refine Q4 ?_|intro _|simp only[List.set]|fail)
  exact j5 (P9 () za slr)
 refine Ez (J pre) (dF gs gp gv r) (by rw[hs];exact hY pre _ h2 (by rw[e2];exact List.prefix_refl _)) hsw (λv m1' hv=>?_) List.perm_append_comm;refine b3x ?_;refine zR (λok w hS=>hS.perm (m':=dF gs gp gv r++m1') List.perm_append_comm) ?_;rcases hv with⟨rfl,h4,rfl⟩|⟨rfl,h4⟩
 ·exact IK rfl xQ (.inr rfl) ⟨r,.inl ⟨by rw[e2];exact h4,by rw[e2]⟩⟩ slr
 exact IK rfl xQ (.inr rfl) ⟨r,.inr ⟨_,m1',by rw[e2];exact List.prefix_refl _,h4,rfl⟩⟩ slr
theorem a9v {x:Bs}{g:Nat}{n:Int}(_:x.length<=1000000000)(hn:0<=n/\n<=1000000000):Av.Spec prog GL 312 [str x,ptr g] [.var g 3 (int n)] λu m=>u=d9 (I4 x&&decide (n+1<=5))/\m=[.var g 3 (int (n+1))]:=by
 refine zc func312 ntmps312 λ_ hs=>?_;repeat' first|refine Yz ?_|intro
 cases h:I4 x
 ·repeat' first|refine Yz ?_|intro
  refine j4 _ ⟨rfl,rfl⟩ ?_;exact A8
 repeat' first|refine Yz ?_|intro
 refine j4 _ ⟨rfl,rfl⟩ ?_;exact A8
theorem a4R {α:Type}{a:List α}{l n e r d:α}:(a++[l,n,e,r,d]++[]).Perm (l::d::(a++[e,r,n])):=by
 rw[List.append_nil];refine List.perm_append_comm.trans (List.Perm.trans ?_ (((List.perm_append_comm (l₁:=[e,r,n]) (l₂:=a)).cons d).cons l));refine List.Perm.cons _ ?_;exact(List.Perm.swap e n _).trans (((List.Perm.swap r n _).cons e).trans ((((List.Perm.swap d n _).cons r).cons e).trans (((List.Perm.swap d r _).cons e).trans (List.Perm.swap d e _))))
instance b9x :Ans prog GL 276 [str s] (s.length<=1000000000) (d9 (gL s)):=⟨λhl=>by
 refine WM func276 rfl ntmps276 rfl (λsB hs=>?_);repeat' first|refine Yz ?_|intro
 rename_i gn gr;refine Z0 (vs:=[.pointer (some ⟨gn,0,none⟩)]) ?_;repeat' first|refine Yz ?_|intro
 refine J6 (args:=[str s,str [47]]) [] _ (by rw[hs];exact a2r) (λu m1 hh=>?_) lpr;obtain⟨gs,gp,gv,rfl,rfl⟩:=hh;repeat' first|refine Yz ?_|intro
 rename_i ge;have hG0:([]:List Bs).all I4=true/\([]:List Bs).length<=5:=⟨rfl,dc⟩;refine Fp (gf:=371) (lb:=[.pointer (some ⟨gp,0,none⟩),.pointer (some ⟨gs,0,none⟩),.pointer (some ⟨gv,0,none⟩)]) (by simp[Value.oneCell']) (λok w a fn hS ha ok1 w1 st1 hS1 ha1=>?_);generalize hr0:DU fn a _ _ _ w=r0 at hS1 ⊢;have e1:r0.state=.ready:=by rw[<- hr0]
 have e2:r0.pending=none:=by rw[<- hr0]
 have e3:r0.tmps=a.tmps:=by rw[<- hr0]
 have e4:r0.params=#[13]:=by rw[<- hr0]
 have e5:{ { r0 with state:=.busy } with state:=.ready,pending:=none }=r0:=by rw[<- hr0]
 generalize hD:w.heap.size=D at hS1 ⊢;have hS2:=hS1.perm (m':=(dF gs gp gv s++[.obj (D+1) (.loop r0),.var gn 3 (int 0),.var ge 202 (F3 312 [.pointer (some ⟨gn,0,none⟩)]),.var gr 4 (d9 (decide (((s.length:Nat):Int)<=200))),.obj D (.deferred (some []))])++[]) a4R;have hIt:=a2q (ok0:=ok1) (w0:=w1) (L:=D+1) (gs:=gs) (gp:=gp) (gv:=gv) (s:=s)
  (J:=λpre=>[.obj (D+1) (.loop r0),.var gn 3 (int pre.length),.var ge 202 (F3 312 [.pointer (some ⟨gn,0,none⟩)]),.var gr 4 (d9 (decide (((s.length:Nat):Int)<=200))),.obj D (.deferred (some []))])
  (G:=λpre=>pre.all I4=true/\pre.length<=5)
  (B:=λpre m'=>¬ (pre.all I4=true/\pre.length<=5)/\m'=[.obj (D+1) (.loop { { r0 with state:=.busy } with state:=.done,pending:=some (.exit 0) }),.var gn 3 (int pre.length),.var ge 202 (F3 312 [.pointer (some ⟨gn,0,none⟩)]),.var gr 4 (d9 false),.obj D (.deferred (some []))])
  (λpre x hG hpx=>?_) hG0 hl (Stp.refl _ _) (by rw[<- hs];exact hS2.lend)
 rotate_left
 ·have hxm:x∈Y5 s:=hpx.subset sm;have hxl:x.length<=1000000000:=Nat.le_trans (a2s hxm) hl;have e6:=congrArg Loop.assign hr0.symm;have e7:=congrArg Loop.body hr0.symm;dsimp only at e6 e7;refine VT (N:=19) (p:=13) ha1 e3 e4 rfl (λs2 hs2=>?_);rw[e6,e7];refine sH ?_;repeat' (first|refine M8 ?_|refine L8 ?_|refine Q4 ?_|intro _|simp only[]|fail)
  refine j5 (Dz lpr e1 ?_);refine UV (qO (sH ?_));repeat' (first|refine M8 ?_|refine L8 ?_|refine Q4 ?_|intro _|simp only[List.set]|fail)
  refine gX (args:=[str x]) (cs:=[.pointer (some ⟨gn,0,none⟩)]) [.var gn 3 (int pre.length)] [.obj (D+1) (.loop { r0 with state:=.busy }),.var ge 202 (F3 312 [.pointer (some ⟨gn,0,none⟩)]),.var gr 4 (d9 (decide (((s.length:Nat):Int)<=200))),.obj D (.deferred (some []))] (by rw[hs2];exact a9v hxl ⟨om,by have:=hG.2;omega⟩) (λu m1 hh=>?_) (List.Perm.swap _ _ _);obtain⟨rfl,rfl⟩:=hh;repeat' (first|refine M8 ?_|refine L8 ?_|refine Q4 ?_|intro _|simp only[List.set]|fail)
  refine j5 (jX (b1u (b:=I4 x&&decide (((pre.length:Nat):Int)+1<=5)) rfl (λhb=>?_) (λhb=>?_)))
  ·refine PM (yI (BU (r:={ r0 with state:=.busy }) (m1:=[.var gn 3 (int (((pre.length:Nat):Int)+1)),.var ge 202 (F3 312 [.pointer (some ⟨gn,0,none⟩)]),.var gr 4 (d9 (decide (((s.length:Nat):Int)<=200))),.obj D (.deferred (some []))]) (List.Perm.swap _ _ _) (.inl ⟨rfl,?_,?_⟩)))
   ·rw[bet,decide_eq_true_iff] at hb;rw[List.all_append,hG.1];refine⟨by simp[hb.1],?_⟩;rw[lla,List.length_singleton];omega
   rw[e5,show (((pre++[x]).length:Nat):Int)=((pre.length:Nat):Int)+1 by simp]
  refine qO (sH ?_);repeat' (first|refine M8 ?_|refine L8 ?_|refine Q4 ?_|intro _|simp only[List.set]|fail)
  refine j5 (jX (Ec (Ff (b3A (r:={ r0 with state:=.busy }) (m1:=[.var gn 3 (int (((pre.length:Nat):Int)+1)),.var ge 202 (F3 312 [.pointer (some ⟨gn,0,none⟩)]),.var gr 4 (d9 false),.obj D (.deferred (some []))]) (List.Perm.swap _ _ _) (.inr ⟨rfl,?_,?_⟩)))))
  ·rintro⟨h1,h2⟩;rw[List.all_append,bet] at h1;rw[lla,List.length_singleton] at h2;have h3:I4 x=true:=by simpa using h1.2
   rw[h3,Bool.true_and] at hb;have:=of_decide_eq_false hb;omega
  rw[show (((pre++[x]).length:Nat):Int)=((pre.length:Nat):Int)+1 by simp];dsimp only;rw[e6,e7]
 refine Calls.mono hIt λx w2 hx=>?_;obtain⟨v,m',ok',cv,⟨r,hK⟩,rfl,hv,hSt⟩:=hx;have hSt':=hS2.back (fr:=[]) (by rw[hs];exact hSt);rw[List.append_nil] at hSt';have hmk:zC w=[{ target:=.collected D,args:=#[] }]:=by rw[<- hD]
 rcases hK with⟨⟨g1,g2⟩,rfl⟩|⟨pre,mx,hp,⟨hn,rfl⟩,rfl⟩
 ·refine⟨cv,ok',r0,_,rfl,by rw[e1];decide,hSt'.perm List.perm_middle.symm,hSt.stp,λok3 w3 hS3 st3=>?_⟩;rw[e2,hmk];dsimp only;refine(?_:AED 19 [{ target:=.collected D,args:=#[] }] .normal _ sB _ _) ok3 w3 a hS3 (((ha.stp st1).stp hSt.stp).stp st3);refine Fe ?_;refine ES (VN (VP (α:=Unit) (λ_=>[(2,d9 (decide (((s.length:Nat):Int)<=200)))]) (λ_=>.obj (D+1) (.loop { r0 with state:=.exhausted })::(dF gs gp gv r++[.var gn 3 (int (Y5 s).length),.var ge 202 (F3 312 [.pointer (some ⟨gn,0,none⟩)]),.var gr 4 (d9 (decide (((s.length:Nat):Int)<=200))),.obj D (.deferred (some []))])) ?_ (λ_=>?_)))
  ·repeat' (first|refine M8 ?_|refine L8 ?_|refine Q4 ?_|intro _|simp only[List.set]|fail)
   exact j5 (P9 () za slr)
  refine ES (VO (Fb ?_));refine VK (D:=D) (m1:=.obj (D+1) (.loop { r0 with state:=.exhausted })::(dF gs gp gv r++[.var gn 3 (int (Y5 s).length),.var ge 202 (F3 312 [.pointer (some ⟨gn,0,none⟩)]),.var gr 4 (d9 (decide (((s.length:Nat):Int)<=200)))])) rfl ?_ (CU (CV rfl rfl) xQ) (.inl rfl) ⟨?_,rfl⟩ (List.nil_sublist _)
  ·exact List.perm_append_singleton _ (.obj (D+1) (.loop { r0 with state:=.exhausted })::(dF gs gp gv r++[.var gn 3 (int (Y5 s).length),.var ge 202 (F3 312 [.pointer (some ⟨gn,0,none⟩)]),.var gr 4 (d9 (decide (((s.length:Nat):Int)<=200)))]))
  unfold gL;rw[g1,dT g2];rw[show decide (((s.length:Nat):Int)<=200)=decide (s.length<=200) from decide_eq_decide.2 om];simp[L6]
 refine⟨cv,ok',{ { r0 with state:=.busy } with state:=.done,pending:=some (.exit 0) },_,rfl,(λh=>by cases h),hSt'.perm List.perm_middle.symm,hSt.stp,λok3 w3 hS3 st3=>?_⟩;rw[hmk];refine wp_exit ?_;refine a7e ?_;refine(?_:AED 19 [{ target:=.collected D,args:=#[] }] .normal _ sB _ _) ok3 w3 a hS3 (((ha.stp st1).stp hSt.stp).stp st3);refine ES (VN (VP (α:=Unit) (λ_=>[(2,d9 false)]) (λ_=>.obj (D+1) (.loop { { { r0 with state:=.busy } with state:=.done,pending:=some (.exit 0) } with state:=.exhausted })::(dF gs gp gv r++[.var gn 3 (int pre.length),.var ge 202 (F3 312 [.pointer (some ⟨gn,0,none⟩)]),.var gr 4 (d9 false),.obj D (.deferred (some []))])) ?_ (λ_=>?_)))
 ·repeat' (first|refine M8 ?_|refine L8 ?_|refine Q4 ?_|intro _|simp only[]|fail)
  exact j5 (P9 () za slr)
 refine ES (VO (Fb ?_));refine VK (D:=D) (m1:=.obj (D+1) (.loop { { { r0 with state:=.busy } with state:=.done,pending:=some (.exit 0) } with state:=.exhausted })::(dF gs gp gv r++[.var gn 3 (int pre.length),.var ge 202 (F3 312 [.pointer (some ⟨gn,0,none⟩)]),.var gr 4 (d9 false)])) rfl ?_ (CU (CV rfl rfl) xQ) (.inl rfl) ⟨?_,rfl⟩ (List.nil_sublist _)
 ·exact List.perm_append_singleton _ (.obj (D+1) (.loop { { { r0 with state:=.busy } with state:=.done,pending:=some (.exit 0) } with state:=.exhausted })::(dF gs gp gv r++[.var gn 3 (int pre.length),.var ge 202 (F3 312 [.pointer (some ⟨gn,0,none⟩)]),.var gr 4 (d9 false)]))
 have hd:gL s=false:=by
  by_cases h1:(Y5 s).all I4=true/\(Y5 s).length<=5
  ·refine(hn ⟨?_,Nat.le_trans hp.length_le h1.2⟩).elim;rw[List.all_eq_true] at h1 ⊢;exact λy hy=>h1.1 y (hp.subset hy)
  unfold gL;cases h2:(Y5 s).all I4
  ·simp
  have:¬ (Y5 s).length<=5:=λh=>h1 ⟨h2,h⟩;simp[this]
 rw[hd];rfl⟩
end

instance b9v {s:Bs}:Ans prog GL 277 [str s] (s.length<=1000000000) (int (BI s)):=⟨λhl=>by
 refine zc func277 ntmps277 λ_ hs=>?_;repeat' first|refine Vz ?_|intro
 unfold BI;cases hb:gL s
 ·exact M7
 exact M7⟩
instance c3o {s:Bs}:Ans prog GL 196 [str s] True (d9 (aJ s)):=⟨λ_=>by
 refine zc func196 ntmps196 λ_ hs=>?_;repeat' first|refine Vz ?_|intro
 unfold aJ;rcases s with _|⟨c,s⟩
 ·exact o8
 repeat' first|refine O ?_|intro
 refine x9 ?_;rw[decide_eq_decide.2 (show (1<=(c::s).length/\(c::s).length<=64)↔(((c::s).length:Int)<=64) by rw[List.length_cons];omega)];rfl⟩
instance c3u {s:Bs}:Ans prog GL 197 [str s] True (d9 (iO s)):=⟨λ_=>by
 refine zc func197 ntmps197 λ_ hs=>?_;repeat' first|refine Vz ?_|intro
 unfold iO;rcases s with _|⟨c,s⟩
 ·exact o8
 repeat' first|refine O ?_|intro
 refine x9 ?_;rw[decide_eq_decide.2 (show (1<=(c::s).length/\(c::s).length<=200)↔(((c::s).length:Int)<=200) by rw[List.length_cons];omega)];rfl⟩
instance c0J {s:Bs}:Ans prog GL 278 [str s] True (d9 (fT s)):=⟨λ_=>by
 refine zc func278 ntmps278 λ_ hs=>?_;repeat' first|refine Vz ?_|intro
 unfold fT;cases hb:aJ s
 ·repeat' first|refine O ?_|intro
  refine x9 ?_;rw[Bool.and_false];rfl
 repeat' first|refine O ?_|intro
 refine x9 ?_;rw[Bool.and_true,Bool.not_not];rfl⟩
instance c0D {a b:Bs}:Ans prog GL 362 [str a,str b] (a.length<=1000000000/\b.length<=1000000000) (str (a++[47]++b)):=⟨λhp=>by
 obtain⟨h1,h2⟩:=hp;refine zc func362 ntmps362 λ_ hs=>?_;exact M7⟩
instance c2m {a:Bs}:Ans prog GL 331 [str a] (a.length<=1000000000) (str (gK a)):=⟨λh1=>by
 refine zc func331 ntmps331 λ_ hs=>?_;exact M7⟩
theorem a4A {c d:Bs}:YH c d=decide (d.take (c++[47]).length=c++[47]):=by
 unfold YH;rw[lla];rfl
instance b9U {c d:Bs}:Ans prog GL 361 [str c,str d] (c.length<=1000000000/\d.length<=1000000000) (.tup [str (RG c d),d9 (xP c d)]):=⟨λhp=>by
 obtain⟨h1,h2⟩:=hp;have hl:(c++[47]).length=c.length+1:=by rw[lla];rfl
 have hdl:(d.drop (c.length+1)).length<=1000000000:=by rw[List.length_drop];omega
 refine zc func361 ntmps361 λ_ hs=>?_;unfold RG xP;rw[a4A];repeat' (first|refine iP ?_|refine M8 ?_|refine Q4 ?_|refine L8 ?_|intro _)
 rw[hl];by_cases h:d.take (c.length+1)=c++[47]
 ·rw[if_pos h,dT h,dZ (nni h),Bool.true_and];repeat' first|refine O ?_|intro
  cases hb:gL (d.drop (c.length+1))
  ·exact o8
  exact o8
 rw[if_neg h,dZ h,dT h,Bool.false_and];exact o8⟩
end Go.Proofs.Z

namespace Go.Proofs.Z
open Go Go.RowKit Tw Av
end Go.Proofs.Z

namespace Go.Proofs.Z
open Go Go.RowKit Tw Av Go.Proofs.Tryz
section
variable {d f i k s:Bs}{a:Wd}{h t:Int}
theorem a1U (c:Int)(n:Int):(y9 c n).length<=16777219:=(inferInstance:LenLe (y9 c n) 16777219).out
instance c1L :Ans prog GL 103 [str k,str i] (k.length<=1000000000) (str (E5 k i)):=⟨λh=>by
 refine zc func103 ntmps103 λ_ hs=>?_;have hl:=CJ 105 i;exact M7⟩
instance c1I {n:Int}:Ans prog GL 89 [str k,str i,int n] (k.length<=1000000000/\n<=9223372036854775807) (str (G9 k i n)):=⟨λh=>by
 obtain⟨h1,h2⟩:=h;have hl:=CJ 105 i;have hl2:(E5 k i).length<=2000000000:=by unfold E5;rw[lla];omega
 have hl3:=a1U 113 n;refine zc func89 ntmps89 λ_ hs=>?_;exact M7⟩
instance c1Q :Ans prog GL 211 [str i] True (str (E5 [67] i)):=⟨λ_=>by
 refine zc func211 ntmps211 λ_ hs=>?_;exact M7⟩
instance c1P :Ans prog GL 58 [str i] True (str (E5 [75] i)):=⟨λ_=>by
 refine zc func58 ntmps58 λ_ hs=>?_;exact M7⟩
instance c1R :Ans prog GL 59 [str i] True (str (E5 [72] i)):=⟨λ_=>by
 refine zc func59 ntmps59 λ_ hs=>?_;exact M7⟩
instance c1N :Ans prog GL 295 [str i] True (str (E5 [78] i)):=⟨λ_=>by
 refine zc func295 ntmps295 λ_ hs=>?_;exact M7⟩
instance c1J {n:Int}:Ans prog GL 48 [str i,int n] (n<=9223372036854775807) (str (G9 [80] i n)):=⟨λh=>by
 refine zc func48 ntmps48 λ_ hs=>?_;exact M7⟩
instance c1O {n:Int}:Ans prog GL 170 [str i,int n] (n<=9223372036854775807) (str (G9 [71] i n)):=⟨λh=>by
 refine zc func170 ntmps170 λ_ hs=>?_;exact M7⟩
instance c1M {n:Int}:Ans prog GL 296 [int n] (n<=9223372036854775807) (str (y9 110 n)):=⟨λh=>by
 refine zc func296 ntmps296 λ_ hs=>?_;exact M7⟩
theorem a3V {b:Bool}(h:X6 s b≠0):X6 s b=10:=by
 unfold X6 at h ⊢;split at h <;> simp_all
instance c1K :Ans prog GL 324 [str s] (s.length<=1000000000) (.tup [int (FZ s),int (xV s)]):=⟨λhl=>by
 refine zc func324 ntmps324 λ_ hs=>?_;repeat' first|refine Vz ?_|intro
 refine J6 (args:=[str s]) [] _ (by rw[hs];exact yM) (λu m1 hh=>?_) lpr;obtain⟨gr,rfl,rfl⟩:=hh;repeat' first|refine Vz ?_|intro
 refine G7 (λh=>?_) (λh=>?_)
 ·repeat' first|refine Vz ?_|intro
  refine x9 ?_;have h2:xV s=10:=a3V h;unfold FZ;rw[h2];rfl
 repeat' first|refine Vz ?_|intro
 refine x9 ?_;have h1:xV s=0:=Classical.not_not.1 h;unfold FZ;rw[h1];rfl⟩
instance c0A :Ans prog GL 50 [str k,str i] (k.length<=1000000000) (str (E5 k i)):=⟨λh=>by
 have hl:=CJ 105 i;refine zc func50 ntmps50 λ_ hs=>?_;exact M7⟩
theorem within {n l:Int}:Ans prog GL 325 [int n,int l] True (d9 (decide (l<=n/\n<=1099511627776))):=⟨λ_=>by
 refine zc func325 ntmps325 λ_ hs=>?_;repeat' first|refine Vz ?_|intro
 refine fE (λh=>?_) (λh=>?_)
 ·repeat' first|refine Vz ?_|intro
  refine x9 ?_;rw[decide_eq_decide.2 (show (l<=n/\n<=1099511627776)↔(n<=1099511627776) by omega)];rfl
 repeat' first|refine Vz ?_|intro
 refine x9 ?_;rw[dZ (show ¬ (l<=n/\n<=1099511627776) by omega)];rfl⟩
instance {n l:Int}:Ans prog GL 325 [int n,int l] True (d9 (decide (l<=n/\n<=1099511627776))):=within
def sF (x:Pkt):Int:=if aN x=true then 0 else 1
theorem Df {x:Pkt}(h:NU x=false\/FU x=false\/KU x=false):sF x=1:=by
 unfold sF aN;rcases h with h|h|h <;> rw[h] <;> simp
theorem b0T {x:Pkt}(h1:NU x=true)(h2:FU x=true)(h3:KU x=true):sF x=0:=by
 unfold sF aN;rw[h1,h2,h3];rfl
theorem SS {q:Int}{g:Bs}(e:¬ (1<=q/\q<=1099511627776)\/¬ (0<=h/\h<=1099511627776)\/¬ (0<=t/\t<=1099511627776)\/(h=0/\t=0)):sF ⟨q,s,k,d,a,f,g,h,t⟩=1:=Df (.inl (dZ (λe2=>by simp only at e2;omega)))
theorem ZB {q:Int}{g:Bs}(e:I4 s=false\/I4 k=false\/gL d=false):sF ⟨q,s,k,d,a,f,g,h,t⟩=1:=Df (.inr (.inl (by
 unfold FU;rcases e with e|e|e <;> simp[e])))
theorem Cv {q:Int}{g:Bs}(e:a.n=0\/fT f=false\/fT g=false):sF ⟨q,s,k,d,a,f,g,h,t⟩=1:=Df (.inr (.inr (by
 unfold KU;rcases e with e|e|e <;> simp[e])))
theorem b0U {q:Int}{g:Bs}(h1:1<=q/\q<=1099511627776)(h2:0<=h/\h<=1099511627776)(h3:0<=t/\t<=1099511627776)(h4:¬ (h=0/\t=0))(p1:I4 s=true)(p2:I4 k=true)(p3:gL d=true)(z:¬ a.n=0)(c1:fT f=true)(c2:fT g=true):sF ⟨q,s,k,d,a,f,g,h,t⟩=0:=
 b0T (dT (by simp only;omega)) (by unfold FU;simp[p1,p2,p3]) (by unfold KU;simp[z,c1,c2])
instance c0M {q:Int}{g:Bs}:Ans prog GL 292 [.agg 12 [int q,str s,str k,.agg 7 [str d,G6 a,str f,str g],int h,int t]] (d.length<=1000000000) (int (sF ⟨q,s,k,d,a,f,g,h,t⟩)):=⟨λhd=>by
 refine zc func292 ntmps292 λ_ hs=>?_;by_cases h1:1<=q/\q<=1099511627776
 rotate_left
 ·repeat' first|refine O ?_|intro
  refine x9 ?_;rw[SS (.inl h1)];rfl
 by_cases h2:0<=h/\h<=1099511627776
 rotate_left
 ·repeat' first|refine O ?_|intro
  refine x9 ?_;rw[SS (.inr (.inl h2))];rfl
 by_cases h3:0<=t/\t<=1099511627776
 rotate_left
 ·repeat' first|refine O ?_|intro
  refine x9 ?_;rw[SS (.inr (.inr (.inl h3)))];rfl
 by_cases h4:h=0/\t=0
 ·repeat' first|refine O ?_|intro
  refine x9 ?_;rw[SS (.inr (.inr (.inr h4)))];rfl
 repeat' first|refine O ?_|intro
 by_cases h5:h=0
 all_goals
  repeat' first|refine O ?_|intro
  cases p1:I4 s
  focus
   repeat' first|refine O ?_|intro
   refine x9 ?_;rw[ZB (.inl p1)];rfl
  repeat' first|refine O ?_|intro
  cases p2:I4 k
  focus
   repeat' first|refine O ?_|intro
   refine x9 ?_;rw[ZB (.inr (.inl p2))];rfl
  repeat' first|refine O ?_|intro
  cases p3:gL d
  focus
   repeat' first|refine O ?_|intro
   refine x9 ?_;rw[ZB (.inr (.inr p3))];rfl
  repeat' first|refine O ?_|intro
  by_cases z:a.n=0
  focus
   repeat' first|refine O ?_|intro
   refine x9 ?_;rw[Cv (.inl z)];rfl
  repeat' first|refine O ?_|intro
  cases c1:fT f
  focus
   repeat' first|refine O ?_|intro
   refine x9 ?_;rw[Cv (.inr (.inl c1))];rfl
  repeat' first|refine O ?_|intro
  cases c2:fT g
  focus
   repeat' first|refine O ?_|intro
   refine x9 ?_;rw[Cv (.inr (.inr c2))];rfl
  repeat' first|refine O ?_|intro
  refine x9 ?_;rw[b0U h1 h2 h3 h4 p1 p2 p3 z c1 c2];rfl⟩
end

section
variable {h t:Int}{d f k s:Bs}{a:Wd}
instance {x:Pkt}:LenLe (SH x) 150994971:=by unfold SH;infer_instance
instance {n:Nat}:LenLe (bF n) 32:=⟨Nat.le_of_eq (yG n)⟩
instance c0F {q:Int}{g:Bs}:Ans prog GL 332 [.agg 12 [int q,str s,str k,.agg 7 [str d,G6 a,str f,str g],int h,int t]] (q<=9223372036854775807/\h<=9223372036854775807/\t<=9223372036854775807) (str (SH ⟨q,s,k,d,a,f,g,h,t⟩)):=⟨λhp=>by
 obtain⟨h1,h2,h3⟩:=hp;refine zc func332 ntmps332 λ_ hs=>?_;exact M7⟩
theorem Oi (a b:Bs):yY [a,b]=nX (a++b):=by
 unfold yY;simp
instance c2y {q:Int}{g:Bs}:Ans prog GL 294 [.agg 12 [int q,str s,str k,.agg 7 [str d,G6 a,str f,str g],int h,int t]] (q<=9223372036854775807/\h<=9223372036854775807/\t<=9223372036854775807) (str (M9 ⟨q,s,k,d,a,f,g,h,t⟩)):=⟨λhp=>by
 refine zc func294 ntmps294 λ_ hs=>?_;repeat' first|refine Vz ?_|intro
 refine x9 ?_;rw[Oi];rfl⟩
instance c0c {a:Bs}:Ans prog GL 302 [str a] (a.length<=1000000000) (str (Z9 a)):=⟨λhl=>by
 haveI:LenLe a 1000000000:=⟨hl⟩
 refine zc func302 ntmps302 λ_ hs=>?_;repeat' first|refine Vz ?_|intro
 refine x9 ?_;rw[Oi];rfl⟩
instance c2p:Ans prog GL 299 [] True (str [43]):=⟨λ_=>by
 refine zc func299 ntmps299 λ_ hs=>?_;exact M7⟩
instance c2l {e:Int}:Ans prog GL 301 [int e] (0<=e/\e<256) (str (UE e)):=⟨λhe=>by
 obtain⟨n,rfl⟩:=Int.eq_ofNat_of_zero_le he.1;refine zc func301 ntmps301 λ_ hs=>?_;repeat' first|refine Vz ?_|intro
 refine x9 ?_;rw[MK];rfl⟩
theorem Ae (x:Pkt)(h t:Int):aV x h t=(decide (x.h≠0/\x.h<=h) || decide (x.t≠0/\x.t<=t)):=by
 unfold aV;rw[Bool.decide_or]
instance c1d {q:Int}{g:Bs}{h' t':Int}:Ans prog GL 171 [.agg 12 [int q,str s,str k,.agg 7 [str d,G6 a,str f,str g],int h,int t],int h',int t'] True (d9 (aV ⟨q,s,k,d,a,f,g,h,t⟩ h' t')):=⟨λ_=>by
 refine zc func171 ntmps171 λ_ hs=>?_;repeat' first|refine Vz ?_|intro
 refine H7 (α:=Nat) (λi=>[(20,.agg 4 [.agg 2 [int h,int h'],.agg 2 [int t,int t']]),(21,int i),(8,d9 false)]) (λi=>[]) (λi=>i<=2/\(1<=i->¬ (h≠0/\h<=h'))/\(2<=i->¬ (t≠0/\t<=t'))) (λi=>2-i) 0 za (List.nil_sublist _) ⟨dc,λh=>absurd h dc,λh=>absurd h dc⟩ ?_;rintro i ⟨hi,f1,f2⟩;rcases i with _|_|_|i
 ·repeat' first|refine O ?_|intro
  refine IE (ps:=[.agg 2 [int h,int h'],.agg 2 [int t,int t']]) (u:=.agg 2 [int h,int h']) 0 ?_ rfl dc rfl (by intro p hp;simp at hp;rcases hp with rfl|rfl <;> rfl) rfl;by_cases h1:h=0
  ·repeat' first|refine O ?_|intro
   refine y7 1 za (List.nil_sublist _) ⟨dc,λ_ e=>e.1 h1,λh=>absurd h dc⟩ dc
  by_cases h2:h<=h'
  ·rw[Ae,dT (show h≠0/\h<=h' from ⟨h1,h2⟩),Bool.true_or];repeat' first|refine O ?_|intro
   refine x9 ?_;rw[dT h2];rfl
  repeat' first|refine O ?_|intro
  rw[dZ h2];refine y7 1 za (List.nil_sublist _) ⟨dc,λ_ e=>h2 e.2,λh=>absurd h dc⟩ dc
 ·repeat' first|refine O ?_|intro
  refine IE (ps:=[.agg 2 [int h,int h'],.agg 2 [int t,int t']]) (u:=.agg 2 [int t,int t']) 1 ?_ rfl dc rfl (by intro p hp;simp at hp;rcases hp with rfl|rfl <;> rfl) rfl;by_cases h1:t=0
  ·repeat' first|refine O ?_|intro
   refine y7 2 za (List.nil_sublist _) ⟨dc,λ_=>f1 dc,λ_ e=>e.1 h1⟩ dc
  by_cases h2:t<=t'
  ·rw[Ae,dT (show t≠0/\t<=t' from ⟨h1,h2⟩),Bool.or_true];repeat' first|refine O ?_|intro
   refine x9 ?_;rw[dT h2];rfl
  repeat' first|refine O ?_|intro
  rw[dZ h2];refine y7 2 za (List.nil_sublist _) ⟨dc,λ_=>f1 dc,λ_ e=>h2 e.2⟩ dc
 ·have e1:=f1 dc;have e2:=f2 dc;rw[Ae,dZ e1,dZ e2];exact o8
 omega⟩
theorem Fg (h1:s≠[43])(h2:∀ c,s=[45,c]->c=0):IM s=false/\ET s=0:=by
 unfold IM ET
 constructor
 ·split
  ·exact absurd rfl h1
  ·rename_i c;rw[h2 c rfl];rfl
  rfl
 split
 ·rename_i c;rw[h2 c rfl];rfl
 rfl
theorem b3M {c:UInt8}(h:c≠0):IM [45,c]=true/\ET [45,c]=c.toNat:=⟨dT h,rfl⟩
instance b9V :Ans prog GL 303 [str s] True (.tup [int (ET s),d9 (IM s)]):=⟨λ_=>by
 refine zc func303 ntmps303 λ_ hs=>?_;by_cases h1:s=[43]
 ·subst h1;exact o8
 by_cases h2:∃ b c,s=[b,c]
 ·obtain⟨b,c,rfl⟩:=h2;have h2:([b,c]:Bs).length=2:=rfl;have hcb:=c.toNat_lt;have hc0:c=0↔c.toNat=0:=⟨λe=>by rw[e];rfl,λe=>UInt8.toNat_inj.1 e⟩;by_cases hb:b.toNat=45
  ·obtain rfl:b=45:=UInt8.toNat_inj.1 hb;by_cases hc:c.toNat=0
   ·obtain⟨e1,e2⟩:=Fg h1 (λd e=>by injection e with _ e;injection e with e _;rw[<- e];exact hc0.2 hc);rw[e1,e2];exact bH
   obtain⟨e1,e2⟩:=b3M (λe=>hc (hc0.1 e));rw[e1,e2];exact bH
  obtain⟨e1,e2⟩:=Fg h1 (λd e=>absurd (by injection e with e _;rw[e];rfl) hb);rw[e1,e2];exact bH
 have hl:s.length≠2:=λe=>h2 (by
  match s,e with
  | [b,c],_=>exact⟨b,c,rfl⟩)
 obtain⟨e1,e2⟩:=Fg h1 (λc e=>absurd ⟨45,c,e⟩ h2);rw[e1,e2];exact o8⟩
end
end Go.Proofs.Z

namespace Go.Proofs.Z
open Go Go.RowKit Tw Av
end Go.Proofs.Z

namespace Go.Proofs.Z
open Go Go.RowKit Tw Av Go.Proofs.Tryz
instance c1o {l:List Bs}{xs:List AV}{id:Option Value}[hx:Strs xs l]:Ans prog GL 356 [.sl 1 xs id] (1<=l.length) (d9 (l.all I4)):=⟨λhn=>by
 have h:=hx.out;subst h;have hm:(l.map str).length=l.length:=llm _;refine zc func356 ntmps356 λ_ hs=>?_;refine IP 0 (λhb=>?_);have hb:=BF hb;repeat' first|refine Vz ?_|intro
 refine H7 (α:=Nat) (λi=>[(3,d9 true),(6,.sl 1 (l.map str) id),(7,int (l.map str).length),(8,int i)]) (λi=>[]) (λi=>i<=l.length/\∀ j,(hj:j<l.length)->j<i->I4 l[j]=true) (λi=>l.length-i) 0 za slr ⟨Nat.zero_le _,λ_ _ h=>absurd h om⟩ ?_;rintro i ⟨hi,hall⟩;repeat' first|refine Vz ?_|intro
 refine G7 (λhlt=>?_) (λhlt=>?_)
 ·have hil:i<l.length:=om
  repeat' first|refine Vz ?_|intro
  cases hb:I4 l[i]
  ·repeat' first|refine Vz ?_|intro
   refine x9 ?_;have:l.all I4=false:=List.all_eq_false.2 ⟨_,List.getElem_mem hil,by rw[hb];decide⟩;rw[this];rfl
  repeat' first|refine Vz ?_|intro
  refine y7 (i+1) za slr ⟨hil,λj hj h=>?_⟩ om;by_cases hj2:j<i
  ·exact hall j hj hj2
  obtain rfl:j=i:=by omega
  exact hb
 obtain rfl:i=l.length:=by omega
 have ht:l.all I4=true:=List.all_eq_true.2 λx hx=>by
  obtain⟨j,hj,rfl⟩:=List.getElem_of_mem hx;exact hall j hj hj
 rw[ht];exact M7⟩
instance c1C {s:Int}{o q p:Bs}:Ans prog GL 343 [.agg 4 [int s,str o,str q,str p]] True (d9 (kY ⟨s,o,q,p⟩)):=⟨λ_=>by
 refine zc func343 ntmps343 λ_ hs=>?_;by_cases h1:s=1
 ·subst h1;repeat' first|refine O ?_|intro
  rw[show ([o,q].all I4)=(I4 o&&I4 q) by simp];cases p1:I4 o&&I4 q
  ·repeat' first|refine O ?_|intro
   refine x9 ?_;simp only[Bool.and_eq_false_iff] at p1;rcases p1 with p1|p1 <;> simp[L6,kY,p1]
  repeat' first|refine O ?_|intro
  refine x9 ?_;simp only[Bool.and_eq_true] at p1;simp[L6,kY,p1.1,p1.2]
 by_cases h2:2<=s/\s<=4
 ·have e:kY ⟨s,o,q,p⟩=[o,q,p].all I4:=by
   unfold kY;simp only[if_neg h1];rw[dT (show 1<=s/\s<=4 by omega)];simp
  rw[e];by_cases h3:s=2
  ·subst h3;exact o8
  by_cases h4:s=3
  ·subst h4;exact o8
  obtain rfl:s=4:=by omega
  exact o8
 have e:kY ⟨s,o,q,p⟩=false:=by
  unfold kY;rw[dZ (show ¬ (1<=s/\s<=4) by omega)];rfl
 rw[e];have h3:s≠2:=by omega
 have h4:s≠3:=om
 have h5:s≠4:=om
 exact o8⟩
instance c0C {s:Int}{o q p:Bs}:Ans prog GL 93 [.agg 4 [int s,str o,str q,str p]] (o.length<=1000000000/\q.length<=1000000000/\p.length<=1000000000) (d9 (kY ⟨s,o,q,p⟩)):=⟨λhp=>by
 obtain⟨l1,l2,l3⟩:=hp;refine zc func93 ntmps93 λ_ hs=>?_;by_cases h1:1<=s/\s<=4
 ·have e:kY ⟨s,o,q,p⟩=(I4 o&&(I4 q&&if s=1 then decide (p=[]) else I4 p)):=by
   unfold kY;rw[dT h1,Bool.true_and]
  rw[e];repeat' first|refine O ?_|intro
  cases p1:I4 o
  ·exact o8
  repeat' first|refine O ?_|intro
  cases p2:I4 q
  ·exact o8
  by_cases h2:s=1
  ·rw[if_pos h2];exact o8
  rw[if_neg h2];exact o8
 have e:kY ⟨s,o,q,p⟩=false:=by
  unfold kY;rw[dZ h1];rfl
 rw[e];by_cases h2:s<1
 all_goals
  exact o8⟩
instance c1u {s:Int}{o q p:Bs}{n:Int}:Ans prog GL 357 [.agg 4 [int s,str o,str q,str p],int n] True (d9 (zH ⟨s,o,q,p⟩ n)):=⟨λ_=>by
 refine zc func357 ntmps357 λ_ hs=>?_;unfold zH;by_cases h1:s=n
 ·rw[dT h1];exact o8
 rw[dZ h1];exact o8⟩

section
variable {i o o' p p' q':Bs}{s s':Int}
theorem El (a b:Bs):[a,b].all I4=(I4 a&&I4 b):=by simp
theorem a8z {q:Bs}{gt go gi:Nat}{Ti:TypeId}:Av.Spec prog GL 379 [ptr gt,ptr go,ptr gi] [.var gt 67 (.agg 4 [int s',str o',str q',str p']),.var go 67 (.agg 4 [int s,str o,str q,str p]),.var gi Ti (str i)]
  λu m=>u=d9 (OC ⟨s,o,q,p⟩ ⟨s',o',q',p'⟩ i)/\m=[.var gt 67 (.agg 4 [int s',str o',str q',str p']),.var go 67 (.agg 4 [int s,str o,str q,str p]),.var gi Ti (str i)]:=by
 refine zc func379 ntmps379 λ_ hs=>?_;unfold OC;by_cases h1:o'=q
 ·by_cases h2:q'=o
  ·repeat' first|refine O ?_|intro
   refine j4 _ ⟨?_,rfl⟩ slr;rw[decide_eq_decide.2 (show (o'=q/\q'=o/\p'=i)↔p'=i from ⟨λe=>e.2.2,λe=>⟨h1,h2,e⟩⟩)];rfl
  repeat' first|refine O ?_|intro
  refine j4 _ ⟨?_,rfl⟩ slr;rw[dZ (show ¬ (o'=q/\q'=o/\p'=i) from λe=>h2 e.2.1)];rfl
 repeat' first|refine O ?_|intro
 refine j4 _ ⟨?_,rfl⟩ slr;rw[dZ (show ¬ (o'=q/\q'=o/\p'=i) from λe=>h1 e.1)];rfl
instance c1p {q:Bs}{r:Bs}{a b:Int}:Ans prog GL 358 [.agg 4 [int s,str o,str q,str p],int a,str i,str r,.agg 4 [int s',str o',str q',str p'],int b] True
  (.tup [kT (yX ⟨s,o,q,p⟩ a i r ⟨s',o',q',p'⟩ b).1,int (yX ⟨s,o,q,p⟩ a i r ⟨s',o',q',p'⟩ b).2]):=⟨λ_=>by
 refine zc func358 ntmps358 λ_ hs=>?_;have hno:(zH ⟨s,o,q,p⟩ a=false\/zH ⟨s',o',q',p'⟩ b=false\/OC ⟨s,o,q,p⟩ ⟨s',o',q',p'⟩ i=false)->yX ⟨s,o,q,p⟩ a i r ⟨s',o',q',p'⟩ b=(zW,13):=λh=>by
  unfold yX;rw[if_neg];rintro⟨e1,e2,e3⟩;rcases h with h|h|h
  ·rw[h] at e1;cases e1
  ·rw[h] at e2;cases e2
  rw[h] at e3;cases e3
 repeat' first|refine O ?_|intro
 rename_i g6 g8 g10 g12;refine Z0 (vs:=[.pointer (some ⟨g10,0,none⟩),.pointer (some ⟨g6,0,none⟩),.pointer (some ⟨g8,0,none⟩)]) ?_;repeat' first|refine O ?_|intro
 cases h1:zH ⟨s,o,q,p⟩ a
 ·rw[hno (.inl h1)];exact o8
 repeat' first|refine O ?_|intro
 cases h2:zH ⟨s',o',q',p'⟩ b
 ·rw[hno (.inr (.inl h2))];exact o8
 repeat' first|refine O ?_|intro
 refine gX (args:=[]) (cs:=[.pointer (some ⟨g10,0,none⟩),.pointer (some ⟨g6,0,none⟩),.pointer (some ⟨g8,0,none⟩)]) [.var g10 67 (.agg 4 [int s',str o',str q',str p']),.var g6 67 (.agg 4 [int s,str o,str q,str p]),.var g8 9 (str i)] [.var g12 67 (.agg 4 [int 0,str [],str [],str []])] (by rw[hs];exact a8z) (λu m1 hh=>?_) ?_;rotate_left
 ·exact(List.perm_append_comm (l₁:=[_]) (l₂:=[_,_,_])).trans (List.Perm.append_right [_] (List.Perm.cons _ (List.Perm.swap _ _ _)))
 obtain⟨rfl,rfl⟩:=hh;cases h3:OC ⟨s,o,q,p⟩ ⟨s',o',q',p'⟩ i
 ·rw[hno (.inr (.inr h3))];exact o8
 have hy:yX ⟨s,o,q,p⟩ a i r ⟨s',o',q',p'⟩ b=(⟨3,o,q,r⟩,0):=by
  unfold yX;rw[if_pos ⟨h1,h2,h3⟩]
 rw[hy];exact o8⟩
instance c1G {q:Bs}{r:Bs}:Ans prog GL 323 [.agg 4 [int s,str o,str q,str p],str i,str r,.agg 4 [int s',str o',str q',str p']] True
  (.tup [kT (sN ⟨s,o,q,p⟩ i r ⟨s',o',q',p'⟩).1,int (sN ⟨s,o,q,p⟩ i r ⟨s',o',q',p'⟩).2]):=⟨λ_=>by
 have h2:1<=[i,r].length:=Nat.le_add_left 1 1;refine zc func323 ntmps323 λ_ hs=>?_;repeat' first|refine O ?_|intro
 rw[El];unfold sN;cases h1:I4 i&&I4 r
 ·have e:I4 i=false\/I4 r=false:=Bool.and_eq_false_iff.1 h1;rw[if_pos e];exact o8
 have e:¬ (I4 i=false\/I4 r=false):=by
  simp only[Bool.and_eq_true] at h1;rw[h1.1,h1.2];decide
 rw[if_neg e];exact o8⟩
instance c1B {q:Bs}:Ans prog GL 322 [.agg 4 [int s,str o,str q,str p],str i,.agg 4 [int s',str o',str q',str p']] True
  (.tup [kT (wR ⟨s,o,q,p⟩ i ⟨s',o',q',p'⟩).1,int (wR ⟨s,o,q,p⟩ i ⟨s',o',q',p'⟩).2]):=⟨λ_=>by
 refine zc func322 ntmps322 λ_ hs=>?_;exact o8⟩
instance c1v {q:Bs}:Ans prog GL 319 [str o,str q] True (.tup [kT (wG o q).1,int (wG o q).2]):=⟨λ_=>by
 have h2:1<=[o,q].length:=Nat.le_add_left 1 1;refine zc func319 ntmps319 λ_ hs=>?_;repeat' first|refine O ?_|intro
 rw[El];unfold wG;cases h1:I4 o&&I4 q
 ·have e:¬ (I4 o=true/\I4 q=true):=by
   rw[<- bet,h1];decide
  rw[if_neg e];exact o8
 have e:I4 o=true/\I4 q=true:=by
  rw[<- bet,h1]
 rw[if_pos e];exact o8⟩
instance c1g :Ans prog GL 321 [str o,str p,.agg 4 [int s',str o',str q',str p']] True (.tup [kT (pR o p ⟨s',o',q',p'⟩).1,int (pR o p ⟨s',o',q',p'⟩).2]):=⟨λ_=>by
 have h2:1<=[o,p].length:=Nat.le_add_left 1 1;refine zc func321 ntmps321 λ_ hs=>?_;repeat' first|refine O ?_|intro
 rw[El];unfold pR;cases h1:I4 o&&I4 p
 ·have e:I4 o=false\/I4 p=false:=Bool.and_eq_false_iff.1 h1;rw[if_pos e];exact o8
 have e:¬ (I4 o=false\/I4 p=false):=by
  simp only[Bool.and_eq_true] at h1;rw[h1.1,h1.2];decide
 rw[if_neg e];repeat' first|refine O ?_|intro
 cases h3:zH ⟨s',o',q',p'⟩ 1
 ·rw[if_pos (.inl rfl)];exact o8
 by_cases h4:q'=o
 ·rw[if_neg (by rintro (h|h);exact absurd h dc;exact h h4)];repeat' first|refine O ?_|intro
  rw[dZ (nni h4)];exact o8
 rw[if_pos (.inr h4)];repeat' first|refine O ?_|intro
 rw[dT (show q'≠o from h4)];exact o8⟩
instance c1D {q:Bs}:Ans prog GL 320 [.agg 4 [int s,str o,str q,str p]] (s<=9223372036854775807) (str (E9 ⟨s,o,q,p⟩)):=⟨λh1=>by
 refine zc func320 ntmps320 λ_ hs=>?_;exact M7⟩
end
end Go.Proofs.Z
