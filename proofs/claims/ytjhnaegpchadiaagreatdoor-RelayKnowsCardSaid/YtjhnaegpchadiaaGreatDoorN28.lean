/- . -/
import Derived.Test.YtjhnaegpchadiaaGreatDoorN27
set_option maxHeartbeats 64000000
namespace Go.Proofs.YtjhnaegpchadiaaGreatDoor
open Go Go.RowKit Tw Av Go.Proofs.Tryz
theorem MZ {N:Nat}{Q:Exit->Act->World->Prop}{s:Av.Base}{e:Av.Env}{m:List Av.Piece}{ds:List Deferred}(h:AED N ds .ret Q s e m):AED N ds .ret (Exit.noGoto Q) s e m:=h
theorem a4b {P:Program}{N L:Nat}{Q:Exit->Act->World->Prop}{s:Av.Base}{e:Av.Env}{m:List Av.Piece}{c:Operand}{x y:Code}{b:Bool}(hc:Av.ev e c=some (.lit (.bool (!b))))(h1:b=true->BC P N L y Q s e m)(h2:b=false->BC P N L x Q s e m):BC P N L (.cond c x y) Q s e m:=by
 cases b
 ·exact a4a (h2 rfl) hc
 ·exact a4c (h1 rfl) hc
theorem a0e {Q:Exit->Act->World->Prop}{id:Nat}{a:Act}{w:World}(h:Q .normal a w):Exit.inBlock id Q (.exit id) a w:=by
 simp only[Exit.inBlock,if_true];exact h
theorem Ed {s:Bs}:dG (47::s)=0:=by
 unfold dG;rw[List.findIdx_cons];rfl
theorem Ec {c:UInt8}{s:Bs}(h:c≠47):dG (c::s)=dG s+1:=by
 unfold dG;rw[List.findIdx_cons,dZ h];rfl
theorem XJ:∀ {s:Bs},dG s<s.length->A8 s=s.take (dG s)::A8 (s.drop (dG s+1))
 | [],h=>by simp at h
 | c::s,h=>by
  by_cases hc:c=47
  ·subst hc;rw[Ed,A8,if_pos rfl];rfl
  ·rw[Ec hc] at h ⊢;rw[A8,if_neg hc,XJ (s:=s) (by simpa using h)];rfl
theorem XI:∀ {s:Bs},¬ dG s<s.length->A8 s=[s]
 | [],_=>rfl
 | c::s,h=>by
  by_cases hc:c=47
  ·subst hc;rw[Ed] at h;simp at h
  ·rw[Ec hc] at h;rw[A8,if_neg hc,XI (s:=s) (by simpa using h)];rfl
abbrev aI (gs gp gv:Nat)(s:Bs):List Av.Piece:=[.var gv 3 (int 0),.var gp 9 (str [47]),.var gs 9 (str s)]
theorem Rc {s:Bs}:Av.Spec prog GL 253 [str s,str [47]] [] fun u m=>∃ gs gp gv,u=F4 380 [.pointer (some ⟨gp,0,none⟩),.pointer (some ⟨gs,0,none⟩),.pointer (some ⟨gv,0,none⟩)]/\m=aI gs gp gv s:=by
 have h1:Av.Spec prog GL 329 [str s,str [47],int 0] [] fun u m=>∃ gs gp gv,u=F4 380 [.pointer (some ⟨gp,0,none⟩),.pointer (some ⟨gs,0,none⟩),.pointer (some ⟨gv,0,none⟩)]/\m=aI gs gp gv s:=by
  refine qF func329 ntmps329 fun _ hs=>?_;repeat' first|refine Vz ?_|intro _
  rename_i gs gp gv;refine gH (vs:=[.pointer (some ⟨gp,0,none⟩),.pointer (some ⟨gs,0,none⟩),.pointer (some ⟨gv,0,none⟩)]) ?_;repeat' first|refine Vz ?_|intro _
  refine l9 _ ⟨gs,gp,gv,rfl,rfl⟩ ?_;exact List.Sublist.refl _
 refine qF func253 ntmps253 fun _ hs=>?_;repeat' first|refine Vz ?_|intro _
 refine I8 (args:=[str s,str [47],int 0]) [] _ (by rw[hs];exact h1) (fun u m1 hh=>?_) lpr;obtain⟨gs,gp,gv,rfl,rfl⟩:=hh;repeat' first|refine Vz ?_|intro _
 refine l9 _ ⟨gs,gp,gv,rfl,rfl⟩ ?_;exact x9
theorem Rb {ok0:Ok}{w0:World}{L gs gp gv:Nat}{s:Bs}{J:List Bs->List Av.Piece}{G:List Bs->Prop}{B:List Bs->List Av.Piece->Prop}
  (hY:∀ pre x,G pre->pre++[x] <+: A8 s->Yld prog GL ok0 w0 L [str x] (J pre) fun v m'=>(v=j3 true/\G (pre++[x])/\m'=J (pre++[x]))\/(v=j3 false/\B (pre++[x]) m')) (hG:G []) (hl:s.length<=1000000000) {ok:Ok} {w:World} (hw:Stp ok0 w0 ok w) (hS:St (Q0 GL (aI gs gp gv s++J []) ok w) ok (aI gs gp gv s++J []) w) :
  Calls prog 380 #[.func (.yield L) #[] #[],.pointer (some ⟨gp,0,none⟩),.pointer (some ⟨gs,0,none⟩),.pointer (some ⟨gv,0,none⟩)] w (Back (Q0 GL (aI gs gp gv s++J []) ok w) fun _ m'=>∃ r,(G (A8 s)/\m'=aI gs gp gv r++J (A8 s))\/∃ pre mx,pre <+: A8 s/\B pre mx/\m'=aI gs gp gv r++mx):=by
 refine UK (gl:=GL) (m:=aI gs gp gv s++J []) (args:=[yv L,ptr gp,ptr gs,ptr gv]) (cargs:=[.func (.yield L) #[] #[],.pointer (some ⟨gp,0,none⟩),.pointer (some ⟨gs,0,none⟩),.pointer (some ⟨gv,0,none⟩)]) func380 rfl ntmps380 rfl hS ⟨_,_,rfl,RV0.of_lit rfl,_,_,rfl,RV0.of_lit rfl,_,_,rfl,RV0.of_lit rfl,_,_,rfl,RV0.of_lit rfl,rfl⟩ ?_;have hsw:Stp ok0 w0 (Q0 GL (aI gs gp gv s++J []) ok w).ok (Q0 GL (aI gs gp gv s++J []) ok w).w:=hw;have hs:(Q0 GL (aI gs gp gv s++J []) ok w).gl=GL:=rfl;generalize Q0 GL (aI gs gp gv s++J []) ok w=sB at hsw hs ⊢;clear hS;repeat' first|refine Yz ?_|intro _
 rw[dZ (show ¬ ((([47]:Bs).length:Nat):Int)=0 by decide)];repeat' first|refine Yz ?_|intro _
 refine y5 (α:=List Bs × Bs) (fun q=>[(0,yv L),(1,ptr gp),(2,ptr gs),(3,ptr gv)]) (fun q=>aI gs gp gv q.2++J q.1) (fun q=>A8 s=q.1++A8 q.2/\G q.1/\q.2.length<=s.length) (fun q=>q.2.length) ([],s) ⟨rfl,rfl,rfl,rfl,trivial⟩ slr ⟨rfl,hG,Nat.le_refl _⟩ ?_;rintro⟨pre,r⟩ ⟨h1,h2,h3⟩;dsimp only at h1 h2 h3 ⊢;refine VS ?_;repeat refine sK ?_
 refine CJ ?_;repeat' (first|refine O3 ?_|refine M7 ?_|refine U0 ?_|intro _|simp only[List.set]|fail)
 refine j4 (vL ?_);repeat refine sK ?_
 refine CJ ?_;repeat' (first|refine O3 ?_|refine M7 ?_|refine U0 ?_|intro _|simp only[List.set]|fail)
 refine j4 (vL ?_);repeat refine sK ?_
 by_cases hi:dG r<r.length
 ·have e1:rV r=dG r:=by unfold rV;rw[if_pos hi]
  rw[e1];refine vE ?_;refine VP ?_;refine vL ?_;repeat refine sK ?_
  refine CJ ?_;have e2:A8 s=pre++[r.take (dG r)]++A8 (r.drop (dG r+1)):=by rw[h1,XJ hi,laa];rfl
  repeat' (first|refine O3 ?_|refine M7 ?_|refine U0 ?_|intro _|simp only[List.set]|fail)
  refine U7 0 (dG r) ?_;repeat' (first|refine O3 ?_|refine M7 ?_|refine U0 ?_|intro _|simp only[List.set]|fail)
  refine j4 (vL ?_);repeat refine sK ?_
  refine VQ ?_;refine VN (α:=Unit) (fun _=>[(39,yv L),(40,str (r.take (dG r))),(7,int (dG r)),(0,yv L),(1,ptr gp),(2,ptr gs),(3,ptr gv)]) (fun _=>aI gs gp gv r++J pre) ?_ (fun _=>?_) (pre:=[_,_])
  ·repeat' (first|refine O3 ?_|refine M7 ?_|refine U0 ?_|intro _|simp only[List.set]|fail)
   exact j4 (X7 () (by rw[List.drop_zero];exact⟨rfl,rfl,rfl,rfl,rfl,rfl,rfl,trivial⟩) slr)
  refine VM (J pre) (aI gs gp gv r) (by rw[hs];exact hY pre _ h2 ⟨_,e2.symm⟩) hsw (fun v m1' hv=>?_) List.perm_append_comm;refine Nr ?_;refine gG (fun ok w hS=>hS.perm (m':=aI gs gp gv r++m1') List.perm_append_comm) ?_;rcases hv with⟨rfl,h4,rfl⟩|⟨rfl,h4⟩
  rotate_left
  ·repeat' first|refine Yz ?_|intro _
   refine l9 (aI gs gp gv r++m1') ⟨r,.inr ⟨_,m1',⟨_,e2.symm⟩,h4,rfl⟩⟩ slr
  have hl1:([47]:Bs).length=1:=rfl;repeat' first|refine Yz ?_|intro _
  refine U7 (dG r+1) r.length ?_;rw[List.take_length];repeat' first|refine Yz ?_|intro _
  refine o6 (pre++[r.take (dG r)],r.drop (dG r+1)) ⟨rfl,rfl,rfl,rfl,trivial⟩ slr ⟨e2,h4,by simp;omega⟩ (by simp;omega)
 ·have e1:rV r=-1:=by unfold rV;rw[if_neg hi]
  have e2:A8 s=pre++[r]:=by rw[h1,XI hi]
  rw[e1];refine sD ?_;refine Ob ?_;repeat' (first|refine Ns ?_|refine Nt ?_|refine VO ?_|refine vL ?_)
  refine VQ ?_;refine VN (α:=Unit) (fun _=>[(49,yv L),(50,str r)]) (fun _=>aI gs gp gv r++J pre) ?_ (fun _=>?_) (pre:=[_,_])
  ·repeat' (first|refine O3 ?_|refine M7 ?_|refine U0 ?_|intro _|simp only[List.set]|fail)
   exact j4 (X7 () ⟨rfl,rfl,trivial⟩ slr)
  refine VM (J pre) (aI gs gp gv r) (by rw[hs];exact hY pre _ h2 (by rw[e2];exact List.prefix_refl _)) hsw (fun v m1' hv=>?_) List.perm_append_comm;refine a5X ?_;refine sJ (fun ok w hS=>hS.perm (m':=aI gs gp gv r++m1') List.perm_append_comm) ?_;rcases hv with⟨rfl,h4,rfl⟩|⟨rfl,h4⟩
  ·exact xA rfl lM (.inr rfl) ⟨r,.inl ⟨by rw[e2];exact h4,by rw[e2]⟩⟩ slr
  ·exact xA rfl lM (.inr rfl) ⟨r,.inr ⟨_,m1',by rw[e2];exact List.prefix_refl _,h4,rfl⟩⟩ slr
theorem a2s {x:Bs}{g:Nat}{n:Int}(_:x.length<=1000000000)(hn:0<=n/\n<=1000000000):Av.Spec prog GL 252 [str x,ptr g] [.var g 3 (int n)] fun u m=>u=j3 (I5 x&&decide (n+1<=5))/\m=[.var g 3 (int (n+1))]:=by
 refine qF func252 ntmps252 fun _ hs=>?_;repeat' first|refine Yz ?_|intro _
 cases h:I5 x
 ·repeat' first|refine Yz ?_|intro _
  refine l9 _ ⟨rfl,rfl⟩ ?_;exact x9
 ·repeat' first|refine Yz ?_|intro _
  refine l9 _ ⟨rfl,rfl⟩ ?_;exact x9
theorem Vo {α:Type}{a:List α}{l n e r d:α}:(a++[l,n,e,r,d]++[]).Perm (l::d::(a++[e,r,n])):=by
 rw[List.append_nil];refine List.perm_append_comm.trans (List.Perm.trans ?_ (((List.perm_append_comm (l₁:=[e,r,n]) (l₂:=a)).cons d).cons l));refine List.Perm.cons _ ?_;exact(List.Perm.swap e n _).trans (((List.Perm.swap r n _).cons e).trans ((((List.Perm.swap d n _).cons r).cons e).trans (((List.Perm.swap d r _).cons e).trans (List.Perm.swap d e _))))
instance b1F {s:Bs}:Ans prog GL 161 [str s] (s.length<=1000000000) (j3 (bA s)):=⟨fun hl=>by
 refine DT func161 rfl ntmps161 rfl (fun sB hs=>?_);repeat' first|refine Yz ?_|intro _
 rename_i gn gr;refine gH (vs:=[.pointer (some ⟨gn,0,none⟩)]) ?_;repeat' first|refine Yz ?_|intro _
 refine I8 (args:=[str s,str [47]]) [] _ (by rw[hs];exact Rc) (fun u m1 hh=>?_) lpr;obtain⟨gs,gp,gv,rfl,rfl⟩:=hh;repeat' first|refine Yz ?_|intro _
 rename_i ge;have hG0:([]:List Bs).all I5=true/\([]:List Bs).length<=5:=⟨rfl,dc⟩;refine GU (gf:=380) (lb:=[.pointer (some ⟨gp,0,none⟩),.pointer (some ⟨gs,0,none⟩),.pointer (some ⟨gv,0,none⟩)]) (by simp[Value.oneCell']) (fun ok w a fn hS ha ok1 w1 st1 hS1 ha1=>?_);generalize hr0:tN fn a _ _ _ w=r0 at hS1 ⊢;have e1:r0.state=.ready:=by rw[<- hr0]
 have e2:r0.pending=none:=by rw[<- hr0]
 have e3:r0.tmps=a.tmps:=by rw[<- hr0]
 have e4:r0.params=#[13]:=by rw[<- hr0]
 have e5:{ { r0 with state:=.busy } with state:=.ready,pending:=none }=r0:=by rw[<- hr0]
 generalize hD:w.heap.size=D at hS1 ⊢;have hS2:=hS1.perm (m':=(aI gs gp gv s++[.obj (D+1) (.loop r0),.var gn 3 (int 0),.var ge 69 (F4 252 [.pointer (some ⟨gn,0,none⟩)]),.var gr 4 (j3 (decide (((s.length:Nat):Int)<=200))),.obj D (.deferred (some []))])++[]) Vo;have hIt:=Rb (ok0:=ok1) (w0:=w1) (L:=D+1) (gs:=gs) (gp:=gp) (gv:=gv) (s:=s)
  (J:=fun pre=>[.obj (D+1) (.loop r0),.var gn 3 (int pre.length),.var ge 69 (F4 252 [.pointer (some ⟨gn,0,none⟩)]),.var gr 4 (j3 (decide (((s.length:Nat):Int)<=200))),.obj D (.deferred (some []))])
  (G:=fun pre=>pre.all I5=true/\pre.length<=5)
  (B:=fun pre m'=>¬ (pre.all I5=true/\pre.length<=5)/\m'=[.obj (D+1) (.loop { { r0 with state:=.busy } with state:=.done,pending:=some (.exit 0) }),.var gn 3 (int pre.length),.var ge 69 (F4 252 [.pointer (some ⟨gn,0,none⟩)]),.var gr 4 (j3 false),.obj D (.deferred (some []))])
  (fun pre x hG hpx=>?_) hG0 hl (Stp.refl _ _) (by rw[<- hs];exact hS2.lend)
 rotate_left
 ·have hxm:x∈A8 s:=hpx.subset sm;have hxl:x.length<=1000000000:=Nat.le_trans (OC hxm) hl;have e6:=congrArg Loop.assign hr0.symm;have e7:=congrArg Loop.body hr0.symm;dsimp only at e6 e7;refine Ol (N:=19) (p:=13) ha1 e3 e4 rfl (fun s2 hs2=>?_);rw[e6,e7];refine UY ?_;repeat' (first|refine O3 ?_|refine M7 ?_|refine U0 ?_|intro _|simp only[]|fail)
  refine j4 (a3R lpr e1 ?_);refine a4d (Ls (UY ?_));repeat' (first|refine O3 ?_|refine M7 ?_|refine U0 ?_|intro _|simp only[List.set]|fail)
  refine nT (args:=[str x]) (cs:=[.pointer (some ⟨gn,0,none⟩)]) [.var gn 3 (int pre.length)] [.obj (D+1) (.loop { r0 with state:=.busy }),.var ge 69 (F4 252 [.pointer (some ⟨gn,0,none⟩)]),.var gr 4 (j3 (decide (((s.length:Nat):Int)<=200))),.obj D (.deferred (some []))] (by rw[hs2];exact a2s hxl ⟨om,by have:=hG.2;omega⟩) (fun u m1 hh=>?_) (List.Perm.swap _ _ _);obtain⟨rfl,rfl⟩:=hh;repeat' (first|refine O3 ?_|refine M7 ?_|refine U0 ?_|intro _|simp only[List.set]|fail)
  refine j4 (Lm (a4b (b:=I5 x&&decide (((pre.length:Nat):Int)+1<=5)) rfl (fun hb=>?_) (fun hb=>?_)))
  ·refine a3Y (Nu (a6b (r:={ r0 with state:=.busy }) (m1:=[.var gn 3 (int (((pre.length:Nat):Int)+1)),.var ge 69 (F4 252 [.pointer (some ⟨gn,0,none⟩)]),.var gr 4 (j3 (decide (((s.length:Nat):Int)<=200))),.obj D (.deferred (some []))]) (List.Perm.swap _ _ _) (.inl ⟨rfl,?_,?_⟩)))
   ·rw[bet,decide_eq_true_iff] at hb;rw[List.all_append,hG.1];refine⟨by simp[hb.1],?_⟩;rw[lla,List.length_singleton];omega
   ·rw[e5,show (((pre++[x]).length:Nat):Int)=((pre.length:Nat):Int)+1 by simp]
  ·refine Ls (UY ?_);repeat' (first|refine O3 ?_|refine M7 ?_|refine U0 ?_|intro _|simp only[List.set]|fail)
   refine j4 (Lm (a3Z (VO (a6a (r:={ r0 with state:=.busy }) (m1:=[.var gn 3 (int (((pre.length:Nat):Int)+1)),.var ge 69 (F4 252 [.pointer (some ⟨gn,0,none⟩)]),.var gr 4 (j3 false),.obj D (.deferred (some []))]) (List.Perm.swap _ _ _) (.inr ⟨rfl,?_,?_⟩)))))
   ·rintro⟨h1,h2⟩;rw[List.all_append,bet] at h1;rw[lla,List.length_singleton] at h2;have h3:I5 x=true:=by simpa using h1.2
    rw[h3,Bool.true_and] at hb;have:=of_decide_eq_false hb;omega
   ·rw[show (((pre++[x]).length:Nat):Int)=((pre.length:Nat):Int)+1 by simp];dsimp only;rw[e6,e7]
 refine Calls.mono hIt fun x w2 hx=>?_;obtain⟨v,m',ok',cv,⟨r,hK⟩,rfl,hv,hSt⟩:=hx;have hSt':=hS2.back (fr:=[]) (by rw[hs];exact hSt);rw[List.append_nil] at hSt';have hmk:qC w=[{ target:=.collected D,args:=#[] }]:=by rw[<- hD]
 rcases hK with⟨⟨g1,g2⟩,rfl⟩|⟨pre,mx,hp,⟨hn,rfl⟩,rfl⟩
 ·refine⟨cv,ok',r0,_,rfl,by rw[e1];decide,hSt'.perm List.perm_middle.symm,hSt.stp,fun ok3 w3 hS3 st3=>?_⟩;rw[e2,hmk];dsimp only;refine(?_:AED 19 [{ target:=.collected D,args:=#[] }] .normal _ sB _ _) ok3 w3 a hS3 (((ha.stp st1).stp hSt.stp).stp st3);refine GK ?_;refine qO (CE (CG (α:=Unit) (fun _=>[(2,j3 (decide (((s.length:Nat):Int)<=200)))]) (fun _=>.obj (D+1) (.loop { r0 with state:=.exhausted })::(aI gs gp gv r++[.var gn 3 (int (A8 s).length),.var ge 69 (F4 252 [.pointer (some ⟨gn,0,none⟩)]),.var gr 4 (j3 (decide (((s.length:Nat):Int)<=200))),.obj D (.deferred (some []))])) ?_ (fun _=>?_)))
  ·repeat' (first|refine O3 ?_|refine M7 ?_|refine U0 ?_|intro _|simp only[List.set]|fail)
   exact j4 (X7 () ⟨rfl,trivial⟩ slr)
  refine qO (CF (MZ ?_));refine BZ (D:=D) (m1:=.obj (D+1) (.loop { r0 with state:=.exhausted })::(aI gs gp gv r++[.var gn 3 (int (A8 s).length),.var ge 69 (F4 252 [.pointer (some ⟨gn,0,none⟩)]),.var gr 4 (j3 (decide (((s.length:Nat):Int)<=200)))])) rfl ?_ (sW (sZ rfl rfl) lM) (.inl rfl) ⟨?_,rfl⟩ (List.nil_sublist _)
  ·exact List.perm_append_singleton _ (.obj (D+1) (.loop { r0 with state:=.exhausted })::(aI gs gp gv r++[.var gn 3 (int (A8 s).length),.var ge 69 (F4 252 [.pointer (some ⟨gn,0,none⟩)]),.var gr 4 (j3 (decide (((s.length:Nat):Int)<=200)))]))
  unfold bA;rw[g1,dT g2];rw[show decide (((s.length:Nat):Int)<=200)=decide (s.length<=200) from decide_eq_decide.2 om];simp[J6]
 ·refine⟨cv,ok',{ { r0 with state:=.busy } with state:=.done,pending:=some (.exit 0) },_,rfl,(fun h=>by cases h),hSt'.perm List.perm_middle.symm,hSt.stp,fun ok3 w3 hS3 st3=>?_⟩;rw[hmk];refine wp_exit ?_;refine a0e ?_;refine(?_:AED 19 [{ target:=.collected D,args:=#[] }] .normal _ sB _ _) ok3 w3 a hS3 (((ha.stp st1).stp hSt.stp).stp st3);refine qO (CE (CG (α:=Unit) (fun _=>[(2,j3 false)]) (fun _=>.obj (D+1) (.loop { { { r0 with state:=.busy } with state:=.done,pending:=some (.exit 0) } with state:=.exhausted })::(aI gs gp gv r++[.var gn 3 (int pre.length),.var ge 69 (F4 252 [.pointer (some ⟨gn,0,none⟩)]),.var gr 4 (j3 false),.obj D (.deferred (some []))])) ?_ (fun _=>?_)))
  ·repeat' (first|refine O3 ?_|refine M7 ?_|refine U0 ?_|intro _|simp only[]|fail)
   exact j4 (X7 () ⟨rfl,trivial⟩ slr)
  refine qO (CF (MZ ?_));refine BZ (D:=D) (m1:=.obj (D+1) (.loop { { { r0 with state:=.busy } with state:=.done,pending:=some (.exit 0) } with state:=.exhausted })::(aI gs gp gv r++[.var gn 3 (int pre.length),.var ge 69 (F4 252 [.pointer (some ⟨gn,0,none⟩)]),.var gr 4 (j3 false)])) rfl ?_ (sW (sZ rfl rfl) lM) (.inl rfl) ⟨?_,rfl⟩ (List.nil_sublist _)
  ·exact List.perm_append_singleton _ (.obj (D+1) (.loop { { { r0 with state:=.busy } with state:=.done,pending:=some (.exit 0) } with state:=.exhausted })::(aI gs gp gv r++[.var gn 3 (int pre.length),.var ge 69 (F4 252 [.pointer (some ⟨gn,0,none⟩)]),.var gr 4 (j3 false)]))
  have hd:bA s=false:=by
   by_cases h1:(A8 s).all I5=true/\(A8 s).length<=5
   ·refine(hn ⟨?_,Nat.le_trans hp.length_le h1.2⟩).elim;rw[List.all_eq_true] at h1 ⊢;exact fun y hy=>h1.1 y (hp.subset hy)
   ·unfold bA;cases h2:(A8 s).all I5
    ·simp
    ·have:¬ (A8 s).length<=5:=fun h=>h1 ⟨h2,h⟩;simp[this]
  rw[hd];rfl⟩

instance b3Y {s:Bs}:Ans prog GL 393 [str s] (s.length<=1000000000) (j3 (bA s)):=⟨fun hl=>by
 have hlen:=DR s;have hcnt:=List.count_le_length (l:=s) (a:=(47:UInt8));refine qF func393 ntmps393 fun _ hs=>?_;repeat' first|refine Vz ?_|intro _
 have hml:((A8 s).map str).length=(A8 s).length:=llm _;refine y5 (α:=Nat) (fun i=>[(0,str s),(3,.sl 1 ((A8 s).map str) none),(4,int i)]) (fun i=>[]) (fun i=>i<=(A8 s).length/\∀ j,(hj:j<(A8 s).length)->j<i->I5 (A8 s)[j]=true) (fun i=>(A8 s).length-i) 0 ⟨rfl,rfl,rfl,trivial⟩ slr ⟨Nat.zero_le _,fun _ _ h=>absurd h om⟩ ?_;rintro i ⟨hi,hall⟩;repeat' first|refine Vz ?_|intro _
 refine o8 (fun hlt=>?_) (fun hlt=>?_)
 ·have hil:i<(A8 s).length:=om
  have hpl:(A8 s)[i].length<=4611686018427387904:=Nat.le_trans (OC (List.getElem_mem hil)) om;repeat' first|refine Vz ?_|intro _
  cases hb:I5 (A8 s)[i]
  ·repeat' first|refine Vz ?_|intro _
   refine d9 ?_;have:bA s=false:=by
    unfold bA;have:(A8 s).all I5=false:=List.all_eq_false.2 ⟨_,List.getElem_mem hil,by rw[hb];decide⟩;rw[this];simp
   rw[this];rfl
  ·repeat' first|refine Vz ?_|intro _
   refine o6 (i+1) ⟨rfl,rfl,rfl,trivial⟩ slr ⟨hil,fun j hj h=>?_⟩ om;by_cases hj2:j<i
   ·exact hall j hj hj2
   ·obtain rfl:j=i:=by omega
    exact hb
 ·obtain rfl:i=(A8 s).length:=by omega
  have ht:(A8 s).all I5=true:=List.all_eq_true.2 fun x hx=>by
   obtain⟨j,hj,rfl⟩:=List.getElem_of_mem hx;exact hall j hj hj
  have hd:bA s=(decide (s.length<=200)&&decide ((A8 s).length<=5)):=by
   unfold bA;rw[ht,Bool.true_and]
  rw[hd];repeat' first|refine Vz ?_|intro _
  refine Y9 (fun h=>?_) (fun h=>?_)
  ·repeat' first|refine Vz ?_|intro _
   refine d9 ?_;rw[dT (show (A8 s).length<=5 by omega),Bool.and_true,decide_eq_decide.2 (show s.length<=200↔(s.length:Int)<=200 by omega)];rfl
  ·repeat' first|refine Zz ?_|intro _
   refine d9 ?_;rw[dZ (show ¬ (A8 s).length<=5 by omega),Bool.and_false];rfl⟩
theorem a0x {s:Bs}:((A8 s).length:Int)-1=(s.count 47:Nat):=by
 have:=DR s;omega
instance b3X {s:Bs}:Ans prog GL 395 [str s] (s.length<=1000000000) (int (tQ s)):=⟨fun hl=>by
 have hlen:=DR s;have hcnt:=List.count_le_length (l:=s) (a:=(47:UInt8));have hml:((A8 s).map str).length=(A8 s).length:=llm _;refine qF func395 ntmps395 fun _ hs=>?_;repeat' first|refine Vz ?_|intro _
 unfold tQ;cases hb:bA s
 ·repeat' first|refine Vz ?_|intro _
  exact d9 rfl
 ·repeat' first|refine Vz ?_|intro _
  refine d9 ?_;show int (((A8 s).map str).length-1)=_;rw[hml,a0x];rfl⟩
instance b3Z {s:Bs}:Ans prog GL 115 [str s] True (j3 (aV s)):=⟨fun _=>by
 refine qF func115 ntmps115 fun _ hs=>?_;repeat' first|refine Vz ?_|intro _
 unfold aV;by_cases h:1<=s.length
 ·repeat' first|refine Zz ?_|intro _
  refine d9 ?_;rw[decide_eq_decide.2 (show (1<=s.length/\s.length<=64)↔((s.length:Int)<=64) by omega)];rfl
 ·repeat' first|refine Zz ?_|intro _
  refine d9 ?_;rw[dZ (show ¬ (1<=s.length/\s.length<=64) by omega)];rfl⟩
instance b4a {s:Bs}:Ans prog GL 116 [str s] True (j3 (fZ s)):=⟨fun _=>by
 refine qF func116 ntmps116 fun _ hs=>?_;repeat' first|refine Vz ?_|intro _
 unfold fZ;by_cases h:1<=s.length
 ·repeat' first|refine Zz ?_|intro _
  refine d9 ?_;rw[decide_eq_decide.2 (show (1<=s.length/\s.length<=200)↔((s.length:Int)<=200) by omega)];rfl
 ·repeat' first|refine Zz ?_|intro _
  refine d9 ?_;rw[dZ (show ¬ (1<=s.length/\s.length<=200) by omega)];rfl⟩
instance b3U {s:Bs}:Ans prog GL 394 [str s] (s.length<=4611686018427387904) (j3 (fA s)):=⟨fun hl=>by
 refine qF func394 ntmps394 fun _ hs=>?_;repeat' first|refine Vz ?_|intro _
 refine y5 (α:=Nat) (fun i=>[(0,str s),(3,int i)]) (fun i=>[]) (fun i=>i<=s.length/\∀ j,j<i->(s.getD j 0).toNat≠47) (fun i=>s.length-i) 0 ⟨rfl,rfl,trivial⟩ slr ⟨Nat.zero_le _,fun _ h=>absurd h om⟩ ?_;rintro i ⟨hi,hall⟩;repeat' first|refine Vz ?_|intro _
 refine o8 (fun hlt=>?_) (fun hlt=>?_)
 ·have hil:i<s.length:=om
  repeat' first|refine Vz ?_|intro _
  refine sH i ?_ (List.getElem?_eq_getElem hil);repeat' first|refine Vz ?_|intro _
  refine o8 (fun h=>?_) (fun h=>?_)
  ·repeat' first|refine Vz ?_|intro _
   refine d9 ?_;unfold fA;rw[QS hil (by rw[getD_in hil];omega)];rfl
  ·repeat' first|refine Vz ?_|intro _
   refine o6 (i+1) ⟨rfl,rfl,trivial⟩ slr ⟨hil,fun j hj=>?_⟩ om;by_cases hj2:j<i
   ·exact hall j hj2
   ·obtain rfl:j=i:=by omega
    rw[getD_in hil];omega
 ·have hy:rT s=true:=KL.2 fun j hj=>hall j om;repeat' first|refine Vz ?_|intro _
  refine d9 ?_;unfold fA;rw[hy,Bool.true_and];rfl⟩
instance b4c {a b:Bs}:Ans prog GL 351 [str a,str b] (a.length<=1000000000/\b.length<=1000000000) (str (a++[47]++b)):=⟨fun hp=>by
 obtain⟨h1,h2⟩:=hp;refine qF func351 ntmps351 fun _ hs=>?_;repeat' first|refine Vz ?_|intro _
 exact d9 rfl⟩
theorem JX {c d:Bs}:QE c d=decide (d.take (c++[47]).length=c++[47]):=by
 unfold QE;rw[lla];rfl
instance b1T {c d:Bs}:Ans prog GL 350 [str c,str d] (c.length<=1000000000/\d.length<=1000000000) (.tup [str (zN c d),j3 (rE c d)]):=⟨fun hp=>by
 obtain⟨h1,h2⟩:=hp;have hl:(c++[47]).length=c.length+1:=by rw[lla];rfl
 have hdl:(d.drop (c.length+1)).length<=1000000000:=by rw[List.length_drop];omega
 refine qF func350 ntmps350 fun _ hs=>?_;unfold zN rE;rw[JX];repeat' (first|refine bK ?_|refine O3 ?_|refine U0 ?_|refine M7 ?_|intro _)
 rw[hl];by_cases h:d.take (c.length+1)=c++[47]
 ·rw[if_pos h,dT h,dZ (nni h),Bool.true_and];repeat' first|refine Zz ?_|intro _
  cases hb:bA (d.drop (c.length+1))
  ·repeat' first|refine Zz ?_|intro _
   exact d9 rfl
  ·repeat' first|refine Zz ?_|intro _
   exact d9 rfl
 ·rw[if_neg h,dZ h,dT h,Bool.false_and];repeat' first|refine Zz ?_|intro _
  exact d9 rfl⟩
instance b3W {c d:Bs}:Ans prog GL 462 [str c,str d] (c.length<=1000000000/\d.length<=1000000000) (.tup [str (zN c d),j3 (rE c d)]):=⟨fun hp=>by
 obtain⟨h1,h2⟩:=hp;have hl:(c++[47]).length=c.length+1:=by rw[lla];rfl
 refine qF func462 ntmps462 fun _ hs=>?_;repeat' first|refine Vz ?_|intro _
 unfold zN rE;refine Y9 (fun hlt=>?_) (fun hlt=>?_)
 ·have h:¬ d.take (c++[47]).length=c++[47]:=fun e=>by
   have h2:=congrArg List.length e;rw[List.length_take] at h2;omega
  rw[JX,dZ h,Bool.false_and];repeat' first|refine Zz ?_|intro _
  exact d9 rfl
 ·repeat' first|refine Zz ?_|intro _
  refine U7 0 (c++[47]).length ?_;rw[List.drop_zero];repeat' first|refine Zz ?_|intro _
  refine o8 (fun h=>?_) (fun h=>?_)
  ·rw[JX,dZ h,Bool.false_and];repeat' first|refine Zz ?_|intro _
   exact d9 rfl
  ·have h':=Classical.not_not.1 h;have hdl:(d.drop (c.length+1)).length<=1000000000:=by rw[List.length_drop];omega
   rw[JX,dT h',Bool.true_and];repeat' first|refine Zz ?_|intro _
   refine U7 (c.length+1) d.length ?_;rw[List.take_length];cases hb:bA (d.drop (c.length+1))
   ·repeat' first|refine Zz ?_|intro _
    rw[hb];repeat' first|refine Zz ?_|intro _
    exact d9 rfl
   ·repeat' first|refine Zz ?_|intro _
    rw[hb];repeat' first|refine Zz ?_|intro _
    refine U7 (c.length+1) d.length ?_;rw[List.take_length];repeat' first|refine Zz ?_|intro _
    exact d9 rfl⟩

instance b2e {a b:Wd}:Ans prog GL 117 [O0 a,O0 b] True (.tup [O0 (Z6 (a.n+b.n)),j3 (aU (a.n+b.n))]):=⟨fun _=>by
 have hla:=aZ a.n 32;have hlb:=aZ b.n 32;refine qF func117 ntmps117 fun _ hs=>?_;repeat' first|refine Vz ?_|intro _
 rename_i g2 g3 g4;refine aT 8 (Imp.nil (k:=1)) ?_;refine Q6 (fun ok w h=>h.full 3 1 none 0) ?_;refine y5 (α:=Nat × Value) (fun q=>[(4,ptr g4),(6,.sl 1 (dI (I9 a.n 32)) none),(7,.sl 1 (dI (I9 b.n 32)) none),(8,.sl 1 (dI (I9 (a.n+b.n) q.1)) (some q.2)),(9,int (Z4 a.n b.n q.1)),(10,int q.1)]) (fun q=>[.tail 3 1 q.2,.var g4 39 (iL 0)]) (fun q=>q.1<=32) (fun q=>32-q.1) (0,.slice none 0 0) ⟨rfl,rfl,rfl,rfl,?_,rfl,trivial⟩ (by repeat (first|exact List.nil_sublist _|exact List.Sublist.refl _|apply List.Sublist.cons_cons|apply List.Sublist.cons)) (Nat.zero_le _) ?_
 ·rw[Jf];rfl
 rintro⟨i,v⟩ hi;dsimp only at hi ⊢;have hm:(dI (I9 (a.n+b.n) i)).length=i:=by rw[FO,aZ]
 have hm2:=aZ (a.n+b.n) i;have c1:=(CB a.n b.n i).1;repeat' first|refine Vz ?_|intro _
 refine o8 (fun hlt=>?_) (fun hlt=>?_)
 ·have hka:i<(I9 a.n 32).length:=om
  have hkb:i<(I9 b.n 32).length:=om
  have ea:=yI hka;have eb:=yI hkb;have da:=vB a.n i;have db:=vB b.n i;have e1:True->(((I9 a.n 32)[i].toNat:Int)+((I9 b.n 32)[i].toNat:Int)+(Z4 a.n b.n i:Int))%256=((dg (a.n+b.n) i:Nat):Int):=fun _=>by
   obtain⟨c1,c2,c3⟩:=CB a.n b.n i;omega
  have e2:True->(((I9 a.n 32)[i].toNat:Int)+((I9 b.n 32)[i].toNat:Int)+(Z4 a.n b.n i:Int)) / 256=((Z4 a.n b.n (i+1):Nat):Int):=fun _=>by
   obtain⟨c1,c2,c3⟩:=CB a.n b.n i;omega
  repeat' first|refine Vz ?_|intro _
  rw[e1 trivial];repeat' first|refine Vz ?_|intro _
  refine I1 (fun v'=>?_);repeat' first|refine Vz ?_|intro _
  rw[e2 trivial,<- TT];refine o6 (i+1,v') ⟨rfl,rfl,rfl,rfl,rfl,rfl,trivial⟩ ?_ (by dsimp only;omega) (by dsimp only;omega);exact x9
 ·obtain rfl:i=32:=by omega
  have hall:=a6e a b;generalize Z4 a.n b.n 32=c at *;have e3:dI (I9 (a.n+b.n) 32)++[int (c:Int)]=dI (I9 (a.n+b.n) 32++[UInt8.ofNat c]):=by
   have h1:(UInt8.ofNat c).toNat=c:=by
    rw[UInt8.toNat_ofNat'];exact Nat.mod_eq_of_lt om
   rw[Ja,h1]
  have hlen:(I9 (a.n+b.n) 32++[UInt8.ofNat c]).length=32\/(I9 (a.n+b.n) 32++[UInt8.ofNat c]).length=33:=.inr (by rw[lla,aZ];rfl);generalize I9 (a.n+b.n) 32=D at *;generalize hX:D++[UInt8.ofNat c]=X at *;repeat' first|refine Vz ?_|intro _
  refine I1 (fun v'=>?_);rw[e3];repeat' first|refine Vz ?_|intro _
  refine d9 ?_;rw[hall];rfl⟩
instance b2b {a b:Wd}:Ans prog GL 435 [O0 a,O0 b] True (.tup [O0 (Z6 (a.n-b.n)),j3 (decide (b.n<=a.n))]):=⟨fun _=>by
 have hla:=aZ a.n 32;have hlb:=aZ b.n 32;by_cases hle:b.n<=a.n
 ·have hc:tY a b=0\/tY a b=1:=by
   unfold tY;rw[if_neg om];split
   ·exact .inr rfl
   ·exact .inl rfl
  have hnn:0<=tY a b:=om
  obtain⟨d,hd⟩:∃ d,a.n=d+b.n:=⟨a.n-b.n,om⟩;rw[dT hle,show a.n-b.n=d by omega];have hdl:d<115792089237316195423570985008687907853269984665640564039457584007913129639936:=Nat.lt_of_le_of_lt om a.lt;refine qF func435 ntmps435 fun _ hs=>?_;repeat' first|refine Zz ?_|intro _
  rename_i g2 g3 g4;refine aT 8 (Imp.nil (k:=1)) ?_;refine Q6 (fun ok w h=>h.full 3 1 none 0) ?_;refine y5 (α:=Nat × Value) (fun q=>[(4,ptr g4),(6,.sl 1 (dI (I9 a.n 32)) none),(7,.sl 1 (dI (I9 b.n 32)) none),(8,.sl 1 (dI (I9 d q.1)) (some q.2)),(9,int (Z4 d b.n q.1)),(10,int q.1)]) (fun q=>[.tail 3 1 q.2,.var g4 39 (iL 0)]) (fun q=>q.1<=32) (fun q=>32-q.1) (0,.slice none 0 0) ⟨rfl,rfl,rfl,rfl,?_,rfl,trivial⟩ (by repeat (first|exact List.nil_sublist _|exact List.Sublist.refl _|apply List.Sublist.cons_cons|apply List.Sublist.cons)) (Nat.zero_le _) ?_
  ·rw[Jf];rfl
  rintro⟨i,v⟩ hi;dsimp only at hi ⊢;have hm:(dI (I9 d i)).length=i:=by rw[FO,aZ]
  have hm2:=aZ d i;have c1:=(CB d b.n i).1;repeat' first|refine Vz ?_|intro _
  refine o8 (fun hlt=>?_) (fun hlt=>?_)
  ·have hka:i<(I9 a.n 32).length:=om
   have hkb:i<(I9 b.n 32).length:=om
   have ea:=yI hka;have eb:=yI hkb;have da:=vB a.n i;have db:=vB b.n i;have dd:=vB d i;obtain⟨z,hz,hzz⟩:=Qw hd i;have ez:(((I9 a.n 32)[i].toNat:Int)-((I9 b.n 32)[i].toNat:Int)-(Z4 d b.n i:Int))=z:=by omega
   have e1:=TT (n:=d) (k:=i);generalize dg d i=D at *;have hzb:-257<=z/\z<=256:=by omega
   repeat' first|refine Vz ?_|intro _
   rw[ez];clear hd hz ez ea eb da db;rcases hzz with⟨z1,z2,z3⟩|⟨z1,z2,z3⟩
   ·repeat' first|refine Zz ?_|intro _
    refine I1 (fun v'=>?_);repeat' first|refine Vz ?_|intro _
    rw[z2,<- e1];refine aR 9 (v:=int 1) (v':=int (Z4 d b.n (i+1))) (Imp.of_eq (by rw[z3];rfl)) ?_;refine o6 (i+1,v') ⟨rfl,rfl,rfl,rfl,rfl,rfl,trivial⟩ ?_ (by dsimp only;omega) (by dsimp only;omega);exact x9
   ·repeat' first|refine Zz ?_|intro _
    refine I1 (fun v'=>?_);repeat' first|refine Vz ?_|intro _
    rw[z2,<- e1];refine aR 9 (v:=int 0) (v':=int (Z4 d b.n (i+1))) (Imp.of_eq (by rw[z3];rfl)) ?_;refine o6 (i+1,v') ⟨rfl,rfl,rfl,rfl,rfl,rfl,trivial⟩ ?_ (by dsimp only;omega) (by dsimp only;omega);exact x9
  ·obtain rfl:i=32:=by omega
   have hlen:(I9 d 32).length=32\/(I9 d 32).length=33:=.inl (aZ d 32);have hall:=Qx hdl;generalize I9 d 32=X at *;repeat' first|refine Vz ?_|intro _
   refine d9 ?_;rw[hall];rw[show aU d=true from dT hdl];rfl
 ·have hneg:tY a b=-1:=by
   unfold tY;rw[if_pos om]
  rw[dZ hle,show a.n-b.n=0 by omega];refine qF func435 ntmps435 fun _ hs=>?_;repeat' first|refine Vz ?_|intro _
  rw[hneg];repeat' first|refine Zz ?_|intro _
  exact d9 rfl⟩

theorem WX (c:Int)(n:Int):(p9 c n).length<=16777219:=(inferInstance:LenLe (p9 c n) 16777219).out
instance b4C {k i:Bs}:Ans prog GL 156 [str k,str i] (k.length<=1000000000) (str (H6 k i)):=⟨fun h=>by
 refine qF func156 ntmps156 fun _ hs=>?_;have hl:=sO 105 i;repeat' first|refine Vz ?_|intro _
 exact d9 rfl⟩
instance b4A {k i:Bs}{n:Int}:Ans prog GL 94 [str k,str i,int n] (k.length<=1000000000/\n<=9223372036854775807) (str (aC k i n)):=⟨fun h=>by
 obtain⟨h1,h2⟩:=h;have hl:=sO 105 i;have hl2:(H6 k i).length<=2000000000:=by unfold H6;rw[lla];omega
 have hl3:=WX 113 n;refine qF func94 ntmps94 fun _ hs=>?_;repeat' first|refine Vz ?_|intro _
 exact d9 rfl⟩
instance b4E {i:Bs}:Ans prog GL 70 [str i] True (str (H6 [67] i)):=⟨fun _=>by
 refine qF func70 ntmps70 fun _ hs=>?_;repeat' first|refine Vz ?_|intro _
 exact d9 rfl⟩
instance b4F {i:Bs}:Ans prog GL 177 [str i] True (str (H6 [72] i)):=⟨fun _=>by
 refine qF func177 ntmps177 fun _ hs=>?_;repeat' first|refine Vz ?_|intro _
 exact d9 rfl⟩
instance b4D {i:Bs}:Ans prog GL 184 [str i] True (str (H6 [78] i)):=⟨fun _=>by
 refine qF func184 ntmps184 fun _ hs=>?_;repeat' first|refine Vz ?_|intro _
 exact d9 rfl⟩
theorem Ag {s:Bs}{b:Bool}(h:R3 s b≠0):R3 s b=10:=by
 unfold R3 at h ⊢;split at h <;> simp_all
instance b4B {s:Bs}:Ans prog GL 273 [str s] (s.length<=1000000000) (.tup [int (xR s),int (rU s)]):=⟨fun hl=>by
 refine qF func273 ntmps273 fun _ hs=>?_;repeat' first|refine Vz ?_|intro _
 refine I8 (args:=[str s]) [] _ (by rw[hs];exact sP) (fun u m1 hh=>?_) lpr;obtain⟨gr,rfl,rfl⟩:=hh;repeat' first|refine Vz ?_|intro _
 refine o8 (fun h=>?_) (fun h=>?_)
 ·repeat' first|refine Vz ?_|intro _
  refine d9 ?_;have h2:rU s=10:=Ag h;unfold xR;rw[h2];rfl
 ·repeat' first|refine Vz ?_|intro _
  refine d9 ?_;have h1:rU s=0:=Classical.not_not.1 h;unfold xR;rw[h1];rfl⟩
instance b3R {k i:Bs}:Ans prog GL 318 [str k,str i] (k.length<=1000000000) (str (H6 k i)):=⟨fun h=>by
 have hl:=sO 105 i;refine qF func318 ntmps318 fun _ hs=>?_;repeat' first|refine Vz ?_|intro _
 exact d9 rfl⟩
instance b3P {k i:Bs}{n:Int}:Ans prog GL 415 [str k,str i,int n] (k.length<=1000000000/\n<=9223372036854775807) (str (aC k i n)):=⟨fun h=>by
 obtain⟨h1,h2⟩:=h;have hl:=sO 105 i;have hl2:(H6 k i).length<=2000000000:=by unfold H6;rw[lla];omega
 have hl3:=WX 113 n;refine qF func415 ntmps415 fun _ hs=>?_;repeat' first|refine Vz ?_|intro _
 exact d9 rfl⟩
instance b3Q {s:Bs}:Ans prog GL 446 [str s] (s.length<=1000000000) (.tup [int (xR s),int (rU s)]):=⟨fun hl=>by
 refine qF func446 ntmps446 fun _ hs=>?_;repeat' first|refine Vz ?_|intro _
 refine o8 (fun h=>?_) (fun h=>?_)
 ·repeat' first|refine Vz ?_|intro _
  refine d9 ?_;have h2:rU s=10:=Ag h;unfold xR;rw[h2];rfl
 ·repeat' first|refine Vz ?_|intro _
  refine d9 ?_;have h1:rU s=0:=Classical.not_not.1 h;unfold xR;rw[h1];rfl⟩
theorem within {n l:Int}:Ans prog GL 274 [int n,int l] True (j3 (decide (l<=n/\n<=1099511627776))):=⟨fun _=>by
 refine qF func274 ntmps274 fun _ hs=>?_;repeat' first|refine Vz ?_|intro _
 refine Y9 (fun h=>?_) (fun h=>?_)
 ·repeat' first|refine Vz ?_|intro _
  refine d9 ?_;rw[decide_eq_decide.2 (show (l<=n/\n<=1099511627776)↔(n<=1099511627776) by omega)];rfl
 ·repeat' first|refine Vz ?_|intro _
  refine d9 ?_;rw[dZ (show ¬ (l<=n/\n<=1099511627776) by omega)];rfl⟩
instance {n l:Int}:Ans prog GL 274 [int n,int l] True (j3 (decide (l<=n/\n<=1099511627776))):=within
def nS (x:Pkt):Int:=if dO x=true then 0 else 1
theorem UG {x:Pkt}(h:KJ x=false\/EX x=false\/FR x=false):nS x=1:=by
 unfold nS dO;rcases h with h|h|h <;> rw[h] <;> simp
theorem a3o {x:Pkt}(h1:KJ x=true)(h2:EX x=true)(h3:FR x=true):nS x=0:=by
 unfold nS dO;rw[h1,h2,h3];rfl
theorem KI {q h t:Int}{s k d f g:Bs}{a:Wd}(e:¬ (1<=q/\q<=1099511627776)\/¬ (0<=h/\h<=1099511627776)\/¬ (0<=t/\t<=1099511627776)\/(h=0/\t=0)):nS ⟨q,s,k,d,a,f,g,h,t⟩=1:=UG (.inl (dZ (fun e2=>by simp only at e2;omega)))
theorem QV {q h t:Int}{s k d f g:Bs}{a:Wd}(e:I5 s=false\/I5 k=false\/bA d=false):nS ⟨q,s,k,d,a,f,g,h,t⟩=1:=UG (.inr (.inl (by
 unfold EX;rcases e with e|e|e <;> simp[e])))
theorem UF {q h t:Int}{s k d f g:Bs}{a:Wd}(e:a.n=0\/fA f=false\/fA g=false):nS ⟨q,s,k,d,a,f,g,h,t⟩=1:=UG (.inr (.inr (by
 unfold FR;rcases e with e|e|e <;> simp[e])))
theorem Jz {q h t:Int}{s k d f g:Bs}{a:Wd}(h1:1<=q/\q<=1099511627776)(h2:0<=h/\h<=1099511627776)(h3:0<=t/\t<=1099511627776)(h4:¬ (h=0/\t=0))(p1:I5 s=true)(p2:I5 k=true)(p3:bA d=true)(z:¬ a.n=0)(c1:fA f=true)(c2:fA g=true):nS ⟨q,s,k,d,a,f,g,h,t⟩=0:=
 a3o (dT (by simp only;omega)) (by unfold EX;simp[p1,p2,p3]) (by unfold FR;simp[z,c1,c2])
instance b3V {q:Int}{s k d:Bs}{a:Wd}{f g:Bs}{h t:Int}:Ans prog GL 411 [.agg 12 [int q,str s,str k,.agg 7 [str d,O0 a,str f,str g],int h,int t]] (s.length<=1000000000/\k.length<=1000000000/\d.length<=1000000000/\f.length<=1000000000/\g.length<=1000000000) (int (nS ⟨q,s,k,d,a,f,g,h,t⟩)):=⟨fun hd=>by
 obtain⟨l1,l2,l3,l4,l5⟩:=hd;refine qF func411 ntmps411 fun _ hs=>?_;repeat' first|refine Zz ?_|intro _
 cases p1:I5 s
 focus
  repeat' first|refine Zz ?_|intro _
  refine d9 ?_;rw[QV (.inl p1)];rfl
 repeat' first|refine Zz ?_|intro _
 cases p2:I5 k
 focus
  repeat' first|refine Zz ?_|intro _
  refine d9 ?_;rw[QV (.inr (.inl p2))];rfl
 repeat' first|refine Zz ?_|intro _
 cases p3:bA d
 focus
  repeat' first|refine Zz ?_|intro _
  refine d9 ?_;rw[QV (.inr (.inr p3))];rfl
 repeat' first|refine Zz ?_|intro _
 cases c1:fA f
 focus
  repeat' first|refine Zz ?_|intro _
  refine d9 ?_;rw[UF (.inr (.inl c1))];rfl
 repeat' first|refine Zz ?_|intro _
 cases c2:fA g
 focus
  repeat' first|refine Zz ?_|intro _
  refine d9 ?_;rw[UF (.inr (.inr c2))];rfl
 repeat' first|refine Zz ?_|intro _
 rw[CV];by_cases z:a.n=0
 focus
  repeat' first|refine Zz ?_|intro _
  refine d9 ?_;rw[UF (.inl z)];rfl
 by_cases h1:1<=q/\q<=1099511627776
 rotate_left
 focus
  by_cases h0:q<1
  all_goals
   repeat' first|refine Zz ?_|intro _
   refine d9 ?_;rw[KI (.inl h1)];rfl
 by_cases h2:0<=h/\h<=1099511627776
 rotate_left
 focus
  by_cases h0:h<0
  all_goals
   repeat' first|refine Zz ?_|intro _
   refine d9 ?_;rw[KI (.inr (.inl h2))];rfl
 by_cases h3:0<=t/\t<=1099511627776
 rotate_left
 focus
  by_cases h0:t<0
  all_goals
   repeat' first|refine Zz ?_|intro _
   refine d9 ?_;rw[KI (.inr (.inr (.inl h3)))];rfl
 by_cases h4:h=0
 focus
  by_cases h5:t=0
  focus
   repeat' first|refine Zz ?_|intro _
   refine d9 ?_;rw[KI (.inr (.inr (.inr ⟨h4,h5⟩)))];rfl
  repeat' first|refine Zz ?_|intro _
  refine d9 ?_;rw[Jz h1 h2 h3 (fun e=>h5 e.2) p1 p2 p3 z c1 c2];rfl
 repeat' first|refine Zz ?_|intro _
 refine d9 ?_;rw[Jz h1 h2 h3 (fun e=>h4 e.1) p1 p2 p3 z c1 c2];rfl⟩

instance {x:Pkt}:LenLe (JZ x) 150994971:=by unfold JZ;infer_instance
instance {n:Nat}:LenLe (eT n) 32:=⟨Nat.le_of_eq (BO n)⟩
instance b2o {q:Int}{s k d:Bs}{a:Wd}{f g:Bs}{h t:Int}:Ans prog GL 449 [.agg 12 [int q,str s,str k,.agg 7 [str d,O0 a,str f,str g],int h,int t]] (q<=9223372036854775807/\h<=9223372036854775807/\t<=9223372036854775807) (str (JZ ⟨q,s,k,d,a,f,g,h,t⟩)):=⟨fun hp=>by
 obtain⟨h1,h2,h3⟩:=hp;refine qF func449 ntmps449 fun _ hs=>?_;repeat' first|refine Vz ?_|intro _
 exact d9 rfl⟩
instance b2N {q:Int}{s k d:Bs}{a:Wd}{f g:Bs}{h t:Int}:Ans prog GL 416 [.agg 12 [int q,str s,str k,.agg 7 [str d,O0 a,str f,str g],int h,int t]] (q<=9223372036854775807/\h<=9223372036854775807/\t<=9223372036854775807) (str (nR ⟨q,s,k,d,a,f,g,h,t⟩)):=⟨fun hp=>by
 refine qF func416 ntmps416 fun _ hs=>?_;repeat' first|refine Vz ?_|intro _
 exact d9 rfl⟩
instance b2l {a:Bs}:Ans prog GL 419 [str a] (a.length<=1000000000) (str (EI a)):=⟨fun hl=>by
 haveI:LenLe a 1000000000:=⟨hl⟩
 refine qF func419 ntmps419 fun _ hs=>?_;repeat' first|refine Vz ?_|intro _
 exact d9 rfl⟩
instance b2K {e:Int}:Ans prog GL 418 [int e] (0<=e/\e<256) (str (LK e)):=⟨fun he=>by
 obtain⟨n,rfl⟩:=Int.eq_ofNat_of_zero_le he.1;refine qF func418 ntmps418 fun _ hs=>?_;repeat' first|refine Vz ?_|intro _
 refine d9 ?_;rw[CX];rfl⟩
theorem RY (x:Pkt)(h t:Int):kI x h t=(decide (x.h≠0/\x.h<=h) || decide (x.t≠0/\x.t<=t)):=by
 unfold kI;rw[Bool.decide_or]
instance b2B {q:Int}{s k d:Bs}{a:Wd}{f g:Bs}{h t h' t':Int}:Ans prog GL 413 [.agg 12 [int q,str s,str k,.agg 7 [str d,O0 a,str f,str g],int h,int t],int h',int t'] True (j3 (kI ⟨q,s,k,d,a,f,g,h,t⟩ h' t')):=⟨fun _=>by
 refine qF func413 ntmps413 fun _ hs=>?_;by_cases h1:h=0
 ·have e1:¬ (h≠0/\h<=h'):=fun e=>e.1 h1;rw[RY,dZ e1,Bool.false_or];by_cases h2:t=0
  ·have e2:¬ (t≠0/\t<=t'):=fun e=>e.1 h2;rw[dZ e2];repeat' first|refine Zz ?_|intro _
   exact d9 rfl
  ·rw[decide_eq_decide.2 (show (t≠0/\t<=t')↔t<=t' from ⟨fun e=>e.2,fun e=>⟨h2,e⟩⟩)];repeat' first|refine Zz ?_|intro _
   exact d9 rfl
 ·by_cases h3:h<=h'
  ·rw[RY,dT (show h≠0/\h<=h' from ⟨h1,h3⟩),Bool.true_or];repeat' first|refine Zz ?_|intro _
   exact d9 rfl
  ·rw[RY,dZ (show ¬ (h≠0/\h<=h') from fun e=>h3 e.2),Bool.false_or];by_cases h2:t=0
   ·have e2:¬ (t≠0/\t<=t'):=fun e=>e.1 h2;rw[dZ e2];repeat' first|refine Zz ?_|intro _
    exact d9 rfl
   ·rw[decide_eq_decide.2 (show (t≠0/\t<=t')↔t<=t' from ⟨fun e=>e.2,fun e=>⟨h2,e⟩⟩)];repeat' first|refine Zz ?_|intro _
    exact d9 rfl⟩
end Go.Proofs.YtjhnaegpchadiaaGreatDoor

namespace Go.Proofs.YtjhnaegpchadiaaGreatDoor
open Go Go.RowKit Tw Av
end Go.Proofs.YtjhnaegpchadiaaGreatDoor
