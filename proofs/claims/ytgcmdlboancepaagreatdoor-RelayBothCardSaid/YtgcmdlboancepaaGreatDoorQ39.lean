/- . -/
import Derived.Test.YtgcmdlboancepaaGreatDoorQ38
set_option maxHeartbeats 64000000
namespace Go.Proofs.Z
open Go Go.RowKit Tw Av Go.Proofs.Tryz
section
variable {x:DvX}{l:Bs}{s:SlX}{I:SlI}{T2 T7:TypeId}{g2 g7:Nat}
theorem a7F (r:Bs):pK (List.replicate 64 0) r=P8 r:=by
 unfold pK P8;rw[List.length_replicate,List.drop_replicate]
theorem KZ {a:Int}{s:Bs}:(O7 x a s).1.ws.length<=x.ws.length+1:=by
 unfold O7
 (repeat' split) <;> simp[gG,L6,gH]
theorem a5v (hx:DvOk x)(hb:0<=s.m.b/\s.m.b<=1000000)(hl:x.ws.length+l.length<=1000000):Av.Spec prog GL 122 [ptr I.gs,str l] (R4 I x s)
  λu m=>u=int (jU x (2+s.m.b / 64) l).2/\∃ v,m=R4 { I with vw:=v } (jU x (2+s.m.b / 64) l).1 s:=by
 refine ze func122 ntmps122 λ_ hs=>?_;repeat' first|refine Z ?_|intro
 refine y9 (α:=DvX × Value × Int × Bs) (λz=>[(0,ptr I.gs),(1,str z.2.2.2),(5,int z.2.2.1)]) (λz=>R4 { I with vw:=z.2.1 } z.1 s)
  (λz=>DvOk z.1/\jU z.1 z.2.2.1 z.2.2.2=jU x (2+s.m.b / 64) l/\z.1.ws.length+z.2.2.2.length<=1000000/\z.2.2.1+z.2.2.2.length<=3000000/\0<=z.2.2.1) (λz=>z.2.2.2.length) (x,I.vw,2+s.m.b / 64,l) zc slr ⟨hx,rfl,hl,by dsimp only;omega,by dsimp only;omega⟩ ?_
 rintro⟨y,v,a,r⟩ ⟨hy,he,hw,ha,ha0⟩;dsimp only at hy he hw ha ha0 ⊢;by_cases hr:r=[]
 ·subst hr;rw[show jU y a []=(y,0) from rfl] at he;rw[<- he];repeat' first|refine Z ?_|intro
  exact l9 _ ⟨rfl,v,rfl⟩ slr
 have hlr:0<r.length:=List.length_pos_iff.2 hr;have hdl:(r.drop 64).length=r.length-64:=List.length_drop;repeat' first|refine Z ?_|intro
 rename_i g6;refine RU (l:=List.replicate 64 0) (a:=r) rfl ?_;rw[a7F];repeat' first|refine Z ?_|intro
 refine Z4 (min r.length 64) r.length ?_ (h4:=Nat.le_refl _);rw[List.take_length,show r.drop (min r.length 64)=r.drop 64 by
  by_cases h:r.length<=64
  ·rw[Nat.min_eq_left h,List.drop_length,List.drop_of_length_le h]
  rw[Nat.min_eq_right om]]
 repeat' first|refine Z ?_|intro
 apply zf [0];exact zi
 ·intro _ _;refine Au (l:=P8 r) ?_;exact j3 (p9 rfl rfl)
 apply U2 [2,3,4];exact rfl;exact rfl;kernel_rfl;kernel_rfl;intro _ _;refine R7 (Pz (I:={ I.toDvI with vw:=v }) (x:=y) (a:=a) (s:=P8 r) hy.lf om) (λu m1 hu=>?_);obtain⟨rfl,v',rfl⟩:=hu;refine j3 (N7 (I1 { I.toDvI with vw:=v' } (O7 y a (P8 r)).1) [] rfl rfl lpr rfl ?_);have hy2:DvOk (O7 y a (P8 r)).1:=CU hy;have hw2:=KZ (x:=y) (a:=a) (s:=P8 r);rw[Jc hr] at he;by_cases hz:(O7 y a (P8 r)).2=0
 ·rw[if_pos hz] at he;rw[hz];repeat' first|refine Z ?_|intro
  refine dW (R4 { I with vw:=v' } (O7 y a (P8 r)).1 s) _ ?_ lpr (List.sublist_cons_self _ _);exact o9 ((O7 y a (P8 r)).1,v',a+1,r.drop 64) zc slr ⟨hy2,he,by dsimp only;omega,by dsimp only;omega,by dsimp only;omega⟩ (by dsimp only;omega)
 rw[if_neg hz] at he;rw[<- he];repeat' first|refine Z ?_|intro
 refine dW (R4 { I with vw:=v' } (O7 y a (P8 r)).1 s) _ ?_ lpr (List.sublist_cons_self _ _);exact l9 _ ⟨rfl,v',rfl⟩ slr
theorem Iz:∀ {f:Nat} {x:DvX} {a:Int} {s:Bs},(nL f x a s).1.ws.length<=x.ws.length+f
 | 0,_,_,_=>Nat.le_refl _
 | f+1,x,a,s=>by
  unfold nL;have h1:=KZ (x:=x) (a:=a) (s:=P8 s);split
  ·exact Nat.le_add_right _ _
  split
  ·have:=Iz (f:=f) (x:=(O7 x a (P8 s)).1) (a:=a+1) (s:=s.drop 64);omega
  omega
theorem a2m {a:Int}{s:Bs}:(jU x a s).1.ws.length<=x.ws.length+s.length:=Iz
theorem Rh :(aB x).1.ws.length<=x.ws.length:=by
 unfold aB
 (repeat' split) <;> simp[gH,aL,L6]
theorem Pn {A:List Av.Piece}(hlf:0<=x.lf/\x.lf<=1000000)(hl:x.ws.length<=1000000):Av.Spec prog GL 118 [ptr g2] (R4 I x s++(.var g2 T2 (ptr I.gs)::A))
  λu m=>u=int (aB x).2/\∃ v,m=R4 { I with vw:=v } (aB x).1 s++(.var g2 T2 (ptr I.gs)::A):=by
 refine ze func118 ntmps118 λ_ hs=>?_;repeat' first|refine Z ?_|intro
 refine iN [_] (I1 I.toDvI x) (.var g2 T2 (ptr I.gs)::A) (a6h hlf hl) (λu m1 hu=>?_);obtain⟨rfl,v,rfl⟩:=hu;repeat' first|refine Z ?_|intro
 exact l9 _ ⟨rfl,v,rfl⟩ slr
theorem a5A {A:List Av.Piece}(hx:DvOk x)(hb:0<=s.m.b/\s.m.b<=1000000)(hl:x.ws.length+l.length<=1000000):Av.Spec prog GL 121 [ptr g2,ptr g7] (R4 I x s++(.var g2 T2 (ptr I.gs)::.var g7 T7 (str l)::A))
  λu m=>u=int (jU x (2+s.m.b / 64) l).2/\∃ v,m=R4 { I with vw:=v } (jU x (2+s.m.b / 64) l).1 s++(.var g2 T2 (ptr I.gs)::.var g7 T7 (str l)::A):=by
 refine ze func121 ntmps121 λ_ hs=>?_;repeat' first|refine Z ?_|intro
 refine iN [] (R4 I x s) (.var g2 T2 (ptr I.gs)::.var g7 T7 (str l)::A) (a5v hx hb hl) (λu m1 hu=>?_);obtain⟨rfl,v,rfl⟩:=hu;repeat' first|refine Z ?_|intro
 exact l9 _ ⟨rfl,v,rfl⟩ slr
theorem a5z {g8:Nat}{M:MkX}(hM:MkB M)(hlf:0<=x.lf/\x.lf<=1000000)(hl:x.ws.length<=1000000):Av.Spec prog GL 123 [ptr g2,ptr g8] (R4 I x s++[.var g2 T2 (ptr I.gs),.var g7 T7 (str l),.var g8 197 (fU M)])
  λu m=>u=int (O7 x (M.e%2) (M8 M)).2/\∃ v,m=R4 { I with vw:=v } (O7 x (M.e%2) (M8 M)).1 s++[.var g2 T2 (ptr I.gs),.var g7 T7 (str l),.var g8 197 (fU M)]:=by
 have he:=hM.e;refine ze func123 ntmps123 λ_ hs=>?_;repeat' first|refine Z ?_|intro
 apply U2 [1,2,3];exact rfl;exact rfl;kernel_rfl;kernel_rfl;intro _ _;refine R7 (Pz (I:=I.toDvI) (x:=x) (a:=M.e%2) (s:=M8 M) hlf hl) (λu m1 hu=>?_);obtain⟨rfl,v,rfl⟩:=hu;refine j3 (N7 (I1 { I.toDvI with vw:=v } (O7 x (M.e%2) (M8 M)).1) [] rfl rfl lpr rfl ?_);repeat' first|refine Z ?_|intro
 exact l9 _ ⟨rfl,v,rfl⟩ slr
def cmX (x:DvX)(s:SlX)(r:Bs):Nat->DvX
 | 0=>x
 | 1=>(bQ x s r).1
 | 2=>(dU x s r).1
 | 3=>(dR x s r).1
 | _=>(gJ x s r).1
def jW (x:DvX)(s:SlX)(r:Bs):DvX × Int:=if (bQ x s r).2≠0 then bQ x s r else if (dU x s r).2≠0 then dU x s r else if (dR x s r).2≠0 then dR x s r else gJ x s r
abbrev uI (T2 T7:TypeId)(g2 g7 g8:Nat)(gs:Nat)(l:Bs)(M:MkX):List Av.Piece:=[.var g2 T2 (ptr gs),.var g7 T7 (str l),.var g8 197 (fU M)]
abbrev Sr (g2 g7 g8:Nat):List AV:=[E5 121 [.pointer (some ⟨g2,0,none⟩),.pointer (some ⟨g7,0,none⟩)],E5 118 [.pointer (some ⟨g2,0,none⟩)],
 E5 123 [.pointer (some ⟨g2,0,none⟩),.pointer (some ⟨g8,0,none⟩)],E5 118 [.pointer (some ⟨g2,0,none⟩)]]
theorem a5x {r:Bs}{g8:Nat}(hx:DvOk x)(hb:0<=s.m.b/\s.m.b<=1000000)(hM:MkB (I5 s r))(hl:x.ws.length+(K8 s.l++D9 r).length+1<=1000000)(hbr:s.br=false) :
  Av.Spec prog GL 120 [ptr I.gs,.sl 1 (Sr g2 g7 g8) none] (R4 I x s++uI T2 T7 g2 g7 g8 I.gs (K8 s.l++D9 r) (I5 s r))
  λu m=>u=int (jW x s r).2/\∃ v,m=R4 { I with vw:=v } (jW x s r).1 { s with br:=decide ((jW x s r).2≠0) }++uI T2 T7 g2 g7 g8 I.gs (K8 s.l++D9 r) (I5 s r):=by
 have h1:DvOk (bQ x s r).1:=Jd hx;have h2:DvOk (dU x s r).1:=QQ h1;have h3:DvOk (dR x s r).1:=CU h2;have w1:(bQ x s r).1.ws.length<=x.ws.length+(K8 s.l++D9 r).length:=a2m;have w2:(dU x s r).1.ws.length<=(bQ x s r).1.ws.length:=Rh;have w3:(dR x s r).1.ws.length<=(dU x s r).1.ws.length+1:=KZ;have hcs1:∀ v∈[Value.pointer (some ⟨g2,0,none⟩),.pointer (some ⟨g7,0,none⟩)],v.oneCell'=true:=by simp[Value.oneCell']
 have hcs2:∀ v∈[Value.pointer (some ⟨g2,0,none⟩)],v.oneCell'=true:=by simp[Value.oneCell']
 have hcs3:∀ v∈[Value.pointer (some ⟨g2,0,none⟩),.pointer (some ⟨g8,0,none⟩)],v.oneCell'=true:=by simp[Value.oneCell']
 have hs0:({ s with br:=false }:SlX)=s:=by rw[<- hbr]
 generalize hlL:K8 s.l++D9 r=L at hl w1 ⊢;generalize hlM:I5 s r=M at hM ⊢;have c1:∀ v,Av.Spec prog GL 121 [ptr g2,ptr g7] (R4 { I with vw:=v } x s++uI T2 T7 g2 g7 g8 I.gs L M) λu m=>u=int (bQ x s r).2/\∃ v,m=R4 { I with vw:=v } (bQ x s r).1 s++uI T2 T7 g2 g7 g8 I.gs L M:=λv=>by
  unfold bQ;rw[hlL];exact a5A (I:={ I with vw:=v }) hx hb om
 have c2:∀ v,Av.Spec prog GL 118 [ptr g2] (R4 { I with vw:=v } (bQ x s r).1 s++uI T2 T7 g2 g7 g8 I.gs L M) λu m=>u=int (dU x s r).2/\∃ v,m=R4 { I with vw:=v } (dU x s r).1 s++uI T2 T7 g2 g7 g8 I.gs L M:=λv=>Pn (I:={ I with vw:=v }) h1.lf om;have c3:∀ v,Av.Spec prog GL 123 [ptr g2,ptr g8] (R4 { I with vw:=v } (dU x s r).1 s++uI T2 T7 g2 g7 g8 I.gs L M) λu m=>u=int (dR x s r).2/\∃ v,m=R4 { I with vw:=v } (dR x s r).1 s++uI T2 T7 g2 g7 g8 I.gs L M:=λv=>by
  unfold dR;rw[hlM];exact a5z (I:={ I with vw:=v }) hM h2.lf om
 have c4:∀ v,Av.Spec prog GL 118 [ptr g2] (R4 { I with vw:=v } (dR x s r).1 s++uI T2 T7 g2 g7 g8 I.gs L M) λu m=>u=int (gJ x s r).2/\∃ v,m=R4 { I with vw:=v } (gJ x s r).1 s++uI T2 T7 g2 g7 g8 I.gs L M:=λv=>Pn (I:={ I with vw:=v }) h3.lf om;refine ze func120 ntmps120 λ_ hs=>?_;repeat' first|refine Z ?_|intro
 refine y9 (α:=Nat × Value) (λz=>[(0,ptr I.gs),(8,.sl 1 (Sr g2 g7 g8) none),(9,int 4),(10,int z.1)]) (λz=>R4 { I with vw:=z.2 } (cmX x s r z.1) s++uI T2 T7 g2 g7 g8 I.gs L M)
  (λz=>z.1<=4/\(1<=z.1->(bQ x s r).2=0)/\(2<=z.1->(dU x s r).2=0)/\(3<=z.1->(dR x s r).2=0)/\(4<=z.1->(gJ x s r).2=0)) (λz=>4-z.1) (0,I.vw) zc slr
  ⟨Nat.zero_le _,λh=>absurd h (by dsimp only;omega),λh=>absurd h (by dsimp only;omega),λh=>absurd h (by dsimp only;omega),λh=>absurd h (by dsimp only;omega)⟩ ?_
 rintro⟨i,v⟩ ⟨hi,f1,f2,f3,f4⟩;dsimp only at hi f1 f2 f3 f4 ⊢;rcases i with _|_|_|_|_|i
 ·skip
  repeat' first|refine Z ?_|intro
  refine BD (args:=[]) (cs:=[.pointer (some ⟨g2,0,none⟩),.pointer (some ⟨g7,0,none⟩)]) (c1 v) (λu m1 hu=>?_) (hcs:=hcs1);obtain⟨rfl,v',rfl⟩:=hu;by_cases he:(bQ x s r).2=0
  ·repeat' first|refine Z ?_|intro
   exact o9 (1,v') zc slr ⟨by dsimp only;omega,λ_=>he,λh=>absurd h (by dsimp only;omega),λh=>absurd h (by dsimp only;omega),λh=>absurd h (by dsimp only;omega)⟩ (by dsimp only;omega)
  have hd:jW x s r=bQ x s r:=by unfold jW;rw[if_pos he]
  rw[hd,dT he];repeat' first|refine Z ?_|intro
  exact l9 _ ⟨rfl,v',rfl⟩ slr
 ·skip
  have e1:=f1 om;repeat' first|refine Z ?_|intro
  refine BD (args:=[]) (cs:=[.pointer (some ⟨g2,0,none⟩)]) (c2 v) (λu m1 hu=>?_) (hcs:=hcs2);obtain⟨rfl,v',rfl⟩:=hu;by_cases he:(dU x s r).2=0
  ·repeat' first|refine Z ?_|intro
   exact o9 (2,v') zc slr ⟨by dsimp only;omega,λ_=>e1,λ_=>he,λh=>absurd h (by dsimp only;omega),λh=>absurd h (by dsimp only;omega)⟩ (by dsimp only;omega)
  have hd:jW x s r=dU x s r:=by unfold jW;rw[if_neg (nni e1)];rw[if_pos he]
  rw[hd,dT he];repeat' first|refine Z ?_|intro
  exact l9 _ ⟨rfl,v',rfl⟩ slr
 ·skip
  have e1:=f1 om;have e2:=f2 om;repeat' first|refine Z ?_|intro
  refine BD (args:=[]) (cs:=[.pointer (some ⟨g2,0,none⟩),.pointer (some ⟨g8,0,none⟩)]) (c3 v) (λu m1 hu=>?_) (hcs:=hcs3);obtain⟨rfl,v',rfl⟩:=hu;by_cases he:(dR x s r).2=0
  ·repeat' first|refine Z ?_|intro
   exact o9 (3,v') zc slr ⟨by dsimp only;omega,λ_=>e1,λ_=>e2,λ_=>he,λh=>absurd h (by dsimp only;omega)⟩ (by dsimp only;omega)
  have hd:jW x s r=dR x s r:=by unfold jW;rw[if_neg (nni e1)];rw[if_neg (nni e2)];rw[if_pos he]
  rw[hd,dT he];repeat' first|refine Z ?_|intro
  exact l9 _ ⟨rfl,v',rfl⟩ slr
 ·skip
  have e1:=f1 om;have e2:=f2 om;have e3:=f3 om;repeat' first|refine Z ?_|intro
  refine BD (args:=[]) (cs:=[.pointer (some ⟨g2,0,none⟩)]) (c4 v) (λu m1 hu=>?_) (hcs:=hcs2);obtain⟨rfl,v',rfl⟩:=hu;by_cases he:(gJ x s r).2=0
  ·repeat' first|refine Z ?_|intro
   exact o9 (4,v') zc slr ⟨by dsimp only;omega,λ_=>e1,λ_=>e2,λ_=>e3,λ_=>he⟩ (by dsimp only;omega)
  have hd:jW x s r=gJ x s r:=by unfold jW;rw[if_neg (nni e1)];rw[if_neg (nni e2)];rw[if_neg (nni e3)]
  rw[hd,dT he];repeat' first|refine Z ?_|intro
  exact l9 _ ⟨rfl,v',rfl⟩ slr
 ·have e1:=f1 om;have e2:=f2 om;have e3:=f3 om;have e4:=f4 om;have hd:jW x s r=gJ x s r:=by unfold jW;rw[if_neg (nni e1),if_neg (nni e2),if_neg (nni e3)]
  rw[hd,e4,dZ dc,hs0];repeat' first|refine Z ?_|intro
  exact l9 _ ⟨rfl,v,rfl⟩ slr
 omega
end

theorem a6T (l r:Bs):K8 (K8 l++r)=K8 (l++r):=by
 have h1:l++r=l.take (l.length-l.length%64)++(K8 l++r):=by
  unfold K8;rw[<- laa,List.take_append_drop]
 have h2:(l.take (l.length-l.length%64)).length=l.length-l.length%64:=by
  rw[List.length_take];omega
 rw[h1];generalize K8 l++r=B;generalize l.take (l.length-l.length%64)=A at *;unfold K8;have h3:(A++B).length-(A++B).length%64=A.length+(B.length-B.length%64):=by
  rw[lla];omega
 rw[h3,<- List.drop_drop,List.drop_left]
theorem a6S (l:Bs):(K8 l).length<64:=by
 unfold K8;rw[List.length_drop];omega
theorem a2s (D:List Av.Piece)(a b c:Av.Piece):(D++[b,a,c]).Perm (a::b::(D++[c])):=(List.perm_middle.trans (List.perm_middle.cons b)).trans (List.Perm.swap a b _)
theorem a5y {I:SlI}{x:DvX}{s:SlX}{r:Bs}(hx:DvOk x)(hw:x.ws.length<=1000)(he:0<=s.m.e/\s.m.e<=1000000)(hb:0<=s.m.b/\s.m.b<=1000000)(hc:0<=s.m.c/\s.m.c<=1000000)(hbr:s.br=false) :
  Av.Spec prog GL 55 [ptr I.gs,str r] (R4 I x s) λu m=>u=int (lN x s r).2.2/\∃ v,m=R4 { I with vw:=v } (lN x s r).1 (lN x s r).2.1:=by
 have hn:=hx.n;have hrm:M3 x.n=(x.n-2)*64:=rfl;refine ze func55 ntmps55 λ_ hs=>?_;repeat' first|refine Z ?_|intro
 rw[hbr];repeat' first|refine Z ?_|intro
 unfold lN;rw[if_neg (by rw[hbr];decide)];by_cases h1:1048576<r.length
 ·rw[if_pos h1,if_pos h1,if_pos h1];repeat' first|refine Z ?_|intro
  refine l9 (R4 I x s) ⟨rfl,I.vw,rfl⟩ ?_;exact u7
 rw[if_neg h1,if_neg h1,if_neg h1];repeat' first|refine Z ?_|intro
 refine iN [_] (R4 I x s) [] (a5u hn ⟨hb.1,om⟩) (λu m1 hu=>?_);obtain⟨rfl,rfl⟩:=hu;by_cases h2:M3 x.n-s.m.b<(D9 r).length
 ·rw[if_pos h2];repeat' first|refine Z ?_|intro
  refine l9 (R4 I x s) ⟨rfl,I.vw,rfl⟩ ?_;exact u7
 rw[if_neg h2];have hel:=a6S s.l;have hal:(K8 s.l++D9 r).length=(K8 s.l).length+(D9 r).length:=lla;repeat' first|refine Z ?_|intro
 rename_i g2 g7 g8;have hM:MkB (I5 s r):=⟨by unfold I5;dsimp only;omega,by unfold I5;dsimp only;omega,by unfold I5;dsimp only;omega⟩;refine Y3 (vs:=[.pointer (some ⟨g2,0,none⟩)]) ?_;repeat' first|refine Z ?_|intro
 refine Y3 (vs:=[.pointer (some ⟨g2,0,none⟩),.pointer (some ⟨g7,0,none⟩)]) ?_;repeat' first|refine Z ?_|intro
 refine Y3 (vs:=[.pointer (some ⟨g2,0,none⟩),.pointer (some ⟨g8,0,none⟩)]) ?_;repeat' first|refine Z ?_|intro
 refine Ay (R4 I x s++uI 108 9 g2 g7 g8 I.gs (K8 s.l++D9 r) (I5 s r)) _ ?_ (a2s (R4 I x s) _ _ _) slr;refine R7 (a5x hx hb hM om hbr) (λu m1 hu=>?_);obtain⟨rfl,v,rfl⟩:=hu;have hds:(if (bQ x s r).2≠0 then ((bQ x s r).1,({ s with br:=true }:SlX),(bQ x s r).2) else if (dU x s r).2≠0 then ((dU x s r).1,{ s with br:=true },(dU x s r).2) else if (dR x s r).2≠0 then ((dR x s r).1,{ s with br:=true },(dR x s r).2)
   else if (gJ x s r).2≠0 then ((gJ x s r).1,{ s with br:=true },(gJ x s r).2) else ((gJ x s r).1,⟨I5 s r,s.l++D9 r,false⟩,0))=((jW x s r).1,if (jW x s r).2≠0 then { s with br:=true } else ⟨I5 s r,s.l++D9 r,false⟩,(jW x s r).2):=by
  unfold jW;by_cases e1:(bQ x s r).2=0
  ·by_cases e2:(dU x s r).2=0
   ·by_cases e3:(dR x s r).2=0
    ·by_cases e4:(gJ x s r).2=0
     ·simp[e1,e2,e3,e4]
     simp[e1,e2,e3,e4]
    simp[e1,e2,e3]
   simp[e1,e2]
  simp[e1]
 rw[hds];generalize jW x s r=q at *;obtain⟨y,e⟩:=q;dsimp only;by_cases e0:e=0
 rotate_left
 ·rw[if_pos e0,dT e0];repeat' first|refine Z ?_|intro
  refine dW (R4 { I with vw:=v } y { s with br:=true }) _ ?_ lpr (List.sublist_append_left _ _);exact l9 _ ⟨rfl,v,rfl⟩ slr
 subst e0;rw[if_neg (show ¬ ((0:Int)≠0) by decide),dZ (show ¬ ((0:Int)≠0) by decide)];repeat' first|refine Z ?_|intro
 apply zf [];exact zi
 ·intro _ _;refine Z4 ((K8 s.l++D9 r).length-(K8 s.l++D9 r).length%64) (K8 s.l++D9 r).length ?_ (h4:=Nat.le_refl _);rw[List.take_length,show (K8 s.l++D9 r).drop ((K8 s.l++D9 r).length-(K8 s.l++D9 r).length%64)=K8 (K8 s.l++D9 r) from rfl,a6T];exact j3 (p9 rfl rfl)
 repeat' first|refine Z ?_|intro
 refine dW (R4 { I with vw:=v } y ⟨I5 s r,s.l++D9 r,false⟩) _ ?_ lpr (List.sublist_append_left _ _);exact l9 _ ⟨rfl,v,rfl⟩ slr

structure ChX where
 nm:Bs
 ky:Bs
 ms:List (List Ent)
 bl:List BlkX
 hs:List Hdr
 ev:List EvX
 ws:List Bs
 dd:Bool
def j5 (c:ChX):List Ent:=c.ms.getD c.hs.length []
def X7 (c:ChX):Int:=((c.hs.getLast?).map (·.t)).getD 0
def KR (c:ChX)(b:BlkX):Hdr:=⟨c.nm,b.h,b.t,uY (M7 (j5 c) b).1⟩
def dN (c:ChX)(b:BlkX):ChX:={ c with ms:=c.ms++[(M7 (j5 c) b).1],bl:=c.bl++[b],hs:=c.hs++[KR c b],ev:=c.ev++(M7 (j5 c) b).2.2 }
structure ChI extends SlI where
 gc:Nat
 vm:Value
 vh:Value
 ve:Value
 vt:Value
abbrev y7 (gs:Nat)(vm vh ve vt:Value)(c:ChX):AV:=.agg 8 [str c.nm,str c.ky,ptr gs,.sl 1 (c.ms.map dA) (some vm),.sl 35 (c.hs.map Q7) (some vh),.sl 15 (c.ev.map Q0) (some ve),.sl 1 (c.ws.map str) (some vt),d9 c.dd]
abbrev gK (I:ChI)(x:DvX)(s:SlX)(c:ChX):List Av.Piece:=.var I.gc 113 (y7 I.gs I.vm I.vh I.ve I.vt c)::.tail 64 1 I.vm::.tail 42 35 I.vh::.tail 106 15 I.ve::.tail 9 1 I.vt::R4 I.toSlI x s
theorem Nq {b:Bool}:Imp (.tup [.agg 1 [J2],d9 b]) (.tup [dA [],d9 b]):=(inferInstance:ImpR (.tup [.agg 1 [.lit (.slice none 0 0)],d9 b]) (.tup [.agg 1 [.sl 2 [] none],d9 b])).imp
section
variable {g gs:Nat} {vm vh ve vt:Value} {c:ChX}
instance c1m:AnsM prog GL 110 g [] 113 (y7 gs vm vh ve vt c) True (d9 true) (y7 gs vm vh ve vt c):=⟨λ_=>by
 refine ze func110 ntmps110 λ_ hs=>?_;repeat' first|refine Z ?_|intro
 exact l9 _ ⟨rfl,rfl⟩ slr⟩
instance c1q:AnsM prog GL 48 g [] 113 (y7 gs vm vh ve vt c) True (d9 c.dd) (y7 gs vm vh ve vt c):=⟨λ_=>by
 refine ze func48 ntmps48 λ_ hs=>?_;repeat' first|refine Z ?_|intro
 exact l9 _ ⟨rfl,rfl⟩ slr⟩
instance c1n:AnsM prog GL 16 g [] 113 (y7 gs vm vh ve vt c) True (int c.hs.length) (y7 gs vm vh ve vt c):=⟨λ_=>by
 have hm:(c.hs.map Q7).length=c.hs.length:=llm _;refine ze func16 ntmps16 λ_ hs=>?_;repeat' first|refine Z ?_|intro
 rw[hm];exact l9 _ ⟨rfl,rfl⟩ slr⟩
instance c1k:AnsM prog GL 17 g [] 113 (y7 gs vm vh ve vt c) (c.hs.length<=1000000) (int (X7 c)) (y7 gs vm vh ve vt c):=⟨λhl=>by
 have hm:(c.hs.map Q7).length=c.hs.length:=llm _;refine ze func17 ntmps17 λ_ hs=>?_;repeat' first|refine Z ?_|intro
 unfold X7;by_cases h:c.hs.length=0
 ·rw[List.length_eq_zero_iff.1 h];repeat' first|refine Z ?_|intro
  exact l9 _ ⟨rfl,rfl⟩ slr
 obtain⟨k,hk⟩:∃ k,c.hs.length=k+1:=⟨c.hs.length-1,om⟩;have hkl:k<c.hs.length:=by omega
 have hg:c.hs.getLast?=some c.hs[k]:=by
  rw[List.getLast?_eq_getElem?,hk];exact List.getElem?_eq_getElem hkl
 rw[hg];repeat' first|refine Z ?_|intro
 rw[show ((c.hs.map Q7).length:Int)-1=(k:Int) by omega];repeat' first|refine Z ?_|intro
 exact l9 _ ⟨rfl,rfl⟩ slr⟩
instance c1r {h:Int}:AnsM prog GL 47 g [int h] 113 (y7 gs vm vh ve vt c) (c.ms.length<=1000000) (.tup [dA (if 0<=h/\h<c.ms.length then c.ms.getD h.toNat [] else []),d9 (decide (0<=h/\h<c.ms.length))]) (y7 gs vm vh ve vt c):=⟨λhl=>by
 have hm:(c.ms.map dA).length=c.ms.length:=llm _;refine ze func47 ntmps47 λ_ hs=>?_;repeat' first|refine Z ?_|intro
 by_cases h0:0<=h
 rotate_left
 ·rw[if_neg (λe=>h0 e.1),dZ (λe=>h0 e.1)];repeat' first|refine Z ?_|intro
  refine U6 (.tup [dA [],d9 false]) [.var g 113 (y7 gs vm vh ve vt c)] ?_ ⟨rfl,rfl⟩ ?_
  ·exact Nq
  exact u7
 by_cases h1:h<c.ms.length
 rotate_left
 ·rw[if_neg (λe=>h1 e.2),dZ (λe=>h1 e.2)];repeat' first|refine Z ?_|intro
  refine U6 (.tup [dA [],d9 false]) [.var g 113 (y7 gs vm vh ve vt c)] ?_ ⟨rfl,rfl⟩ ?_
  ·exact Nq
  exact u7
 obtain⟨k,rfl⟩:∃ k:Nat,h=k:=⟨h.toNat,om⟩;have hkl:k<c.ms.length:=by omega
 rw[if_pos ⟨h0,h1⟩,dT ⟨h0,h1⟩,Int.toNat_natCast,List.getD_eq_getElem?_getD,List.getElem?_eq_getElem hkl];repeat' first|refine Z ?_|intro
 refine l9 [.var g 113 (y7 gs vm vh ve vt c)] ⟨rfl,rfl⟩ ?_;exact zd⟩
attribute [local irreducible] X7
instance c1l:AnsM prog GL 15 g [] 113 (y7 gs vm vh ve vt c) (c.hs.length<c.ms.length/\c.ms.length<=1000000) (dA (j5 c)) (y7 gs vm vh ve vt c):=⟨λhl=>by
 have hl2:=hl.2;refine ze func15 ntmps15 λ_ hs=>?_;repeat' first|refine Z ?_|intro
 unfold j5;rw[if_pos (show 0<=(c.hs.length:Int)/\(c.hs.length:Int)<c.ms.length by omega),Int.toNat_natCast];refine l9 [.var g 113 (y7 gs vm vh ve vt c)] ⟨rfl,rfl⟩ ?_;exact zd⟩
instance c1o {h:Int}:AnsM prog GL 58 g [int h] 113 (y7 gs vm vh ve vt c) ((c.hs.length<=1000000/\c.ky.length<=1000000)/\∀ y∈c.hs,y.h<=9223372036854775807/\y.t<=9223372036854775807)
  (if 1<=h/\h<=c.hs.length then .tup [Q7 (c.hs.getD (h-1).toNat ⟨[],0,0,E9⟩),hA (cK c.ky (c.hs.getD (h-1).toNat ⟨[],0,0,E9⟩)),d9 true] else .tup [Q7 ⟨[],0,0,E9⟩,hA E9,d9 false]) (y7 gs vm vh ve vt c):=⟨λhp=>by
 obtain⟨⟨hl,hky⟩,hy⟩:=hp;have hm:(c.hs.map Q7).length=c.hs.length:=llm _;refine ze func58 ntmps58 λ_ hs=>?_;repeat' first|refine Z ?_|intro
 by_cases h0:1<=h
 rotate_left
 ·rw[if_neg (λe=>h0 e.1)];repeat' first|refine Z ?_|intro
  refine l9 [.var g 113 (y7 gs vm vh ve vt c)] ⟨rfl,rfl⟩ ?_;exact u7
 by_cases h1:h<=c.hs.length
 rotate_left
 ·rw[if_neg (λe=>h1 e.2)];repeat' first|refine Z ?_|intro
  refine l9 [.var g 113 (y7 gs vm vh ve vt c)] ⟨rfl,rfl⟩ ?_;exact u7
 obtain⟨k,hk⟩:∃ k:Nat,h=k+1:=⟨(h-1).toNat,om⟩;have hkl:k<c.hs.length:=by omega
 have hyk:=hy _ (List.getElem_mem hkl);have hsp:c.ky.length<=1000000/\c.hs[k].h<=9223372036854775807/\c.hs[k].t<=9223372036854775807:=⟨hky,hyk⟩;rw[if_pos ⟨h0,h1⟩,show h-1=(k:Int) by omega,Int.toNat_natCast,List.getD_eq_getElem?_getD,List.getElem?_eq_getElem hkl];repeat' first|refine Z ?_|intro
 rw[show h-1=(k:Int) by omega];repeat' first|refine Z ?_|intro
 refine l9 [.var g 113 (y7 gs vm vh ve vt c)] ⟨rfl,rfl⟩ ?_;exact zd⟩
end

instance d0k {xs:List AV}{id:Option Value}:Ans prog GL 40 [.sl 15 xs id] (xs.length<=1073741824) (.sl 15 xs none):=⟨λhx=>by
 refine ze func40 ntmps40 λ_ hs=>?_;repeat' first|refine Wz ?_|intro
 refine Aw (λq c hq hc=>?_);repeat' first|refine Wz ?_|intro
 injection hc with hc
 subst hc;refine nA (λh=>?_) (λh=>?_)
 ·have e:=hq h;subst e;repeat' first|refine Wz ?_|intro
  refine F9 ?_;exact Imp.nilN
 repeat' first|refine Wz ?_|intro
 refine Bg (λg=>?_);repeat' first|refine Wz ?_|intro
 refine BF (λg' c' hc'=>?_);refine vZ 7 ?_;refine dF 7 Imp.sl ?_;exact aP⟩
instance c1p {g gs:Nat}{vm vh ve vt:Value}{c:ChX}:AnsM prog GL 12 g [] 113 (y7 gs vm vh ve vt c) (c.ev.length<=1000000) (.sl 15 (c.ev.map Q0) none) (y7 gs vm vh ve vt c):=⟨λhl=>by
 have hm:(c.ev.map Q0).length=c.ev.length:=llm _;refine ze func12 ntmps12 λ_ hs=>?_;repeat' first|refine Z ?_|intro
 apply U2 [];exact rfl;exact rfl;kernel_rfl;kernel_rfl;intro _ _;refine a8T 0 c.ev.length (λA=>?_);refine j3 (N7 [] [_] rfl rfl lpr rfl ?_);rw[List.drop_zero,List.take_of_length_le om];repeat' first|refine Z ?_|intro
 refine l9 _ ⟨rfl,rfl⟩ ?_;exact zd⟩

def tJ (k:Int)(v:EvX):Bool:=decide (v.k=13)&&decide (v.h<=k)
def O9 (evs:List EvX)(k:Int):List Pkt:=(evs.filter (tJ k)).map (·.x)
theorem UA {evs:List EvX}{k:Int}{i:Nat}(h:i<evs.length):O9 (evs.take (i+1)) k=O9 (evs.take i) k++(if tJ k evs[i]=true then [evs[i].x] else []):=by
 unfold O9;rw[<- List.take_append_getElem h,List.filter_append,List.map_append];congr 1
 by_cases hb:tJ k evs[i]=true
 ·rw[if_pos hb];simp[hb]
 rw[if_neg hb];simp[hb]
theorem a0x {evs:List EvX}{k:Int}{i:Nat}:O9 (evs.take i) k <+: O9 evs k:=by
 unfold O9;exact((List.take_prefix i evs).filter _).map _
abbrev eQ (g1 g2:Nat)(p:AV)(k:Int):List Av.Piece:=[.var g2 3 (int k),.var g1 24 p]
theorem Em {p:AV}{k:Int}{v:Value}(hp:p=.lit v)(_:v.oneCell'=true):Av.Spec prog GL 82 [p,int k] [] λu m=>∃ g1 g2,u=E5 173 [.pointer (some ⟨g1,0,none⟩),.pointer (some ⟨g2,0,none⟩)]/\m=eQ g1 g2 p k:=by
 subst hp;refine ze func82 ntmps82 λ_ hs=>?_;repeat' first|refine Z ?_|intro
 rename_i g1 g2;refine Y3 (vs:=[.pointer (some ⟨g1,0,none⟩),.pointer (some ⟨g2,0,none⟩)]) ?_;repeat' first|refine Z ?_|intro
 refine l9 _ ⟨g1,g2,rfl,rfl⟩ ?_;exact List.Sublist.refl _
theorem En {ok0:Ok}{w0:World}{L g1 g2 gc gs:Nat}{vm vh ve vt:Value}{c:ChX}{k:Int}{A:Type}{z0:A}{X Y:List Av.Piece}(hXY:Y++X=[.var gc 113 (y7 gs vm vh ve vt c)]){J:A->List Av.Piece}{G:List Pkt->A->Prop}
  (hY:∀ pre x z,G pre z->pre++[x] <+: O9 c.ev k->Yld prog GL ok0 w0 L [aT x] (J z++X) λv m'=>v=d9 true/\∃ z',G (pre++[x]) z'/\m'=J z'++X) (hG:G [] z0) (hl:c.ev.length<=1000000) {ok:Ok} {w:World} (hw:Stp ok0 w0 ok w)
  (hS:St (Y0 GL (eQ g1 g2 (ptr gc) k++(.var gc 113 (y7 gs vm vh ve vt c)::J z0)) ok w) ok (eQ g1 g2 (ptr gc) k++(.var gc 113 (y7 gs vm vh ve vt c)::J z0)) w) :
  Calls prog 173 #[.func (.yield L) #[] #[],.pointer (some ⟨g1,0,none⟩),.pointer (some ⟨g2,0,none⟩)] w (Back (Y0 GL (eQ g1 g2 (ptr gc) k++(.var gc 113 (y7 gs vm vh ve vt c)::J z0)) ok w) λ_ m'=>∃ z,G (O9 c.ev k) z/\m'=eQ g1 g2 (ptr gc) k++(.var gc 113 (y7 gs vm vh ve vt c)::J z)):=by
 refine Tz (gl:=GL) (m:=eQ g1 g2 (ptr gc) k++(.var gc 113 (y7 gs vm vh ve vt c)::J z0)) (args:=[yv L,ptr g1,ptr g2]) (cargs:=[.func (.yield L) #[] #[],.pointer (some ⟨g1,0,none⟩),.pointer (some ⟨g2,0,none⟩)]) func173 rfl ntmps173 rfl hS ⟨_,_,rfl,RV0.of_lit rfl,_,_,rfl,RV0.of_lit rfl,_,_,rfl,RV0.of_lit rfl,rfl⟩ ?_;have hsw:Stp ok0 w0 (Y0 GL (eQ g1 g2 (ptr gc) k++(.var gc 113 (y7 gs vm vh ve vt c)::J z0)) ok w).ok (Y0 GL (eQ g1 g2 (ptr gc) k++(.var gc 113 (y7 gs vm vh ve vt c)::J z0)) ok w).w:=hw;have hs:(Y0 GL (eQ g1 g2 (ptr gc) k++(.var gc 113 (y7 gs vm vh ve vt c)::J z0)) ok w).gl=GL:=rfl;generalize Y0 GL (eQ g1 g2 (ptr gc) k++(.var gc 113 (y7 gs vm vh ve vt c)::J z0)) ok w=sB at hsw hs ⊢;clear hS;have hm:(c.ev.map Q0).length=c.ev.length:=llm _;repeat' first|refine Z ?_|intro
 rw[hm];refine y9 (α:=Nat × A) (λq=>[(0,yv L),(1,ptr g1),(2,ptr g2),(7,.sl 15 (c.ev.map Q0) none),(8,int c.ev.length),(9,int q.1)]) (λq=>eQ g1 g2 (ptr gc) k++(.var gc 113 (y7 gs vm vh ve vt c)::J q.2))
  (λq=>q.1<=c.ev.length/\G (O9 (c.ev.take q.1) k) q.2) (λq=>c.ev.length-q.1) (0,z0) zc slr ⟨Nat.zero_le _,hG⟩ ?_
 rintro⟨i,z⟩ ⟨hi,hGi⟩;dsimp only at hi hGi ⊢;by_cases hil:i<c.ev.length
 rotate_left
 ·obtain rfl:i=c.ev.length:=by omega
  rw[List.take_length] at hGi;repeat' first|refine Z ?_|intro
  exact jS _ ⟨z,hGi,rfl⟩ slr
 have hst:=UA (k:=k) hil;by_cases hb:tJ k c.ev[i]=true
 rotate_left
 ·rw[if_neg hb,List.append_nil] at hst;by_cases h13:c.ev[i].k=13
  ·have hk:¬ c.ev[i].h<=k:=λh=>hb (by unfold tJ;rw[dT h13,dT h];rfl);repeat' first|refine Z ?_|intro
   exact o9 (i+1,z) zc (List.sublist_cons_self _ _) ⟨hil,by rw[hst];exact hGi⟩ (by dsimp only;omega)
  repeat' first|refine Z ?_|intro
  exact o9 (i+1,z) zc (List.sublist_cons_self _ _) ⟨hil,by rw[hst];exact hGi⟩ (by dsimp only;omega)
 rw[if_pos hb] at hst;have hp:O9 (c.ev.take i) k++[c.ev[i].x] <+: O9 c.ev k:=by rw[<- hst];exact a0x
 unfold tJ at hb;rw[bet,decide_eq_true_iff,decide_eq_true_iff] at hb;obtain⟨h13,hk⟩:=hb;repeat refine rU ?_
 refine BI ?_;repeat' (first|refine K3 ?_|refine J8 ?_|refine M9 ?_|intro _|simp only[List.set]|fail)
 refine j3 (pV ?_);repeat refine rU ?_
 rw[dT (show (i:Int)<c.ev.length by omega)];refine Br ?_;refine SL ?_;refine pV ?_;repeat refine rU ?_
 refine Bt ?_;repeat refine rU ?_
 refine BI ?_;repeat' (first|refine K3 ?_|refine J8 ?_|refine M9 ?_|intro _|simp only[List.set]|fail)
 refine j3 (pV ?_);repeat refine rU ?_
 rename_i g5;refine Bp ?_;refine Bj (α:=Unit) (λ_=>[(23,yv L),(25,aT (c.ev[i]'hil).x),(22,d9 true),(0,yv L),(1,ptr g1),(2,ptr g2),(7,.sl 15 (c.ev.map Q0) none),(8,int c.ev.length),(9,int i)]) (λ_=>Piece.var g5 106 (Q0 (c.ev[i]'hil))::(eQ g1 g2 (ptr gc) k++(Piece.var gc 113 (y7 gs vm vh ve vt c)::J z))) ?_ (λ_=>?_) (pre:=[_,_,_,_,_,_,_,_,_,_,_,_,_])
 ·repeat' first|refine Z ?_|intro
  exact(aZ () (by exact zc) slr)
 refine b0p ?_;have e:∀ l:List Av.Piece,(Piece.var g5 106 (Q0 (c.ev[i]'hil))::(eQ g1 g2 (ptr gc) k++(Piece.var gc 113 (y7 gs vm vh ve vt c)::l))).Perm ((l++X)++(Piece.var g5 106 (Q0 (c.ev[i]'hil))::(eQ g1 g2 (ptr gc) k++Y))):=λl=>by
  show (Piece.var g5 106 (Q0 (c.ev[i]'hil))::(eQ g1 g2 (ptr gc) k++([Piece.var gc 113 (y7 gs vm vh ve vt c)]++l))).Perm _;rw[<- hXY];have h1:Piece.var g5 106 (Q0 (c.ev[i]'hil))::(eQ g1 g2 (ptr gc) k++(Y++X++l))=(Piece.var g5 106 (Q0 (c.ev[i]'hil))::(eQ g1 g2 (ptr gc) k++Y))++(X++l):=by simp only[List.append_assoc,List.cons_append]
  rw[h1];exact List.perm_append_comm.trans (List.Perm.append_right _ List.perm_append_comm)
 refine Bi (J z++X) (Piece.var g5 106 (Q0 (c.ev[i]'hil))::(eQ g1 g2 (ptr gc) k++Y)) (by rw[hs];exact hY _ _ z hGi hp) hsw (λv m1' hv=>?_) (e (J z));obtain⟨rfl,z',h4,rfl⟩:=hv;refine Xg ?_;refine fF (λok w hS=>hS.perm (m':=Piece.var g5 106 (Q0 (c.ev[i]'hil))::(eQ g1 g2 (ptr gc) k++(Piece.var gc 113 (y7 gs vm vh ve vt c)::J z'))) (e (J z'))) ?_;repeat' first|refine Z ?_|intro
 exact o9 (i+1,z') zc (List.sublist_cons_self _ _) ⟨hil,by rw[hst];exact h4⟩ (by dsimp only;omega)
end Go.Proofs.Z

namespace Go.Proofs.Z
open Go Go.RowKit Tw Av
def Y8 (x:DvX):List Bs:=(List.range x.n.toNat).map λ(i:Nat)=>J4 x (i:Int)
theorem NH (x:DvX):(Y8 x).length=x.n.toNat:=by simp[Y8]
theorem JE {x:DvX}{i:Nat}(h:i<x.n.toNat):(Y8 x)[i]?=some (J4 x (i:Int)):=by
 unfold Y8;rw[List.getElem?_map,List.getElem?_range h];rfl
theorem a0L {x y:DvX}(hn:x.n=y.n)(h:∀ i:Nat,i<x.n.toNat->J4 x (i:Int)=J4 y (i:Int)):Y8 x=Y8 y:=by
 unfold Y8;rw[<- hn];exact List.map_congr_left λi hi=>h i (List.mem_range.1 hi)
theorem JF {x y:DvX}(hn:x.n=y.n)(h:x.es=y.es):Y8 x=Y8 y:=a0L hn λi _=>by unfold J4;rw[h]
theorem a0J {x:DvX}{w:Int × Bs}(hn:MpN x.es)(h:0<=w.1):Y8 (bP x w)=(Y8 x).set w.1.toNat w.2:=by
 apply List.ext_getElem?;intro i;have e:(bP x w).n=x.n:=rfl;rw[List.getElem?_set,NH];by_cases hi:i<x.n.toNat
 ·rw[JE (x:=bP x w) (by rw[e];exact hi),YM hn];by_cases hw:w.1.toNat=i
  ·rw[if_pos hw,if_pos om,if_pos om]
  rw[if_neg hw,if_neg om,JE hi]
 rw[List.getElem?_eq_none (by rw[NH,e];omega),List.getElem?_eq_none (l:=Y8 x) (by rw[NH];omega)];split
 ·rw[if_neg om]
 rfl
theorem a0I {n:Int}:Y8 (U0 n)=List.replicate n.toNat uO:=by
 apply List.ext_getElem?;intro i;rw[List.getElem?_replicate];split
 ·rename_i h;rw[JE (x:=U0 n) h];rfl
 rename_i h;exact List.getElem?_eq_none (by rw[NH];exact Nat.le_of_not_lt h)
end Go.Proofs.Z
