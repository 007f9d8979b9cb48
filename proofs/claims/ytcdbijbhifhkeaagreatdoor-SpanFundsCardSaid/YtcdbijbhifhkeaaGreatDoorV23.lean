/- . -/
import Derived.Test.YtcdbijbhifhkeaaGreatDoorV22
set_option maxHeartbeats 64000000
namespace Go.Proofs.Z
open Go Go.RowKit Tw Av Go.Proofs.Tryz
section
variable {x:DvX}{l:Bs}{s:SlX}{I:SlI}{T2 T7:TypeId}{g2 g7:Nat}
theorem b0n (r:Bs):vE (List.replicate 64 0) r=aA r:=by
 unfold vE aA;rw[List.length_replicate,List.drop_replicate]
theorem Bv {a:Int}{s:Bs}:(bN x a s).1.ws.length<=x.ws.length+1:=by
 unfold bN
 (repeat' split) <;> simp[nN,V3,vD]
theorem a8f (hx:DvOk x)(hb:0<=s.m.b/\s.m.b<=1000000)(hl:x.ws.length+l.length<=1000000):Av.Spec prog GL 157 [ptr I.gs,str l] (U4 I x s)
  λu m=>u=int (uQ x (2+s.m.b / 64) l).2/\∃ v,m=U4 { I with vw:=v } (uQ x (2+s.m.b / 64) l).1 s:=by
 refine zc func157 ntmps157 λ_ hs=>?_;repeat' first|refine O ?_|intro
 refine H7 (α:=DvX × Value × Int × Bs) (λz=>[(0,ptr I.gs),(1,str z.2.2.2),(5,int z.2.2.1)]) (λz=>U4 { I with vw:=z.2.1 } z.1 s)
  (λz=>DvOk z.1/\uQ z.1 z.2.2.1 z.2.2.2=uQ x (2+s.m.b / 64) l/\z.1.ws.length+z.2.2.2.length<=1000000/\z.2.2.1+z.2.2.2.length<=3000000/\0<=z.2.2.1) (λz=>z.2.2.2.length) (x,I.vw,2+s.m.b / 64,l) za slr ⟨hx,rfl,hl,by dsimp only;omega,by dsimp only;omega⟩ ?_
 rintro⟨y,v,a,r⟩ ⟨hy,he,hw,ha,ha0⟩;dsimp only at hy he hw ha ha0 ⊢;by_cases hr:r=[]
 ·subst hr;rw[show uQ y a []=(y,0) from rfl] at he;rw[<- he];repeat' first|refine O ?_|intro
  exact j4 _ ⟨rfl,v,rfl⟩ slr
 have hlr:0<r.length:=List.length_pos_iff.2 hr;have hdl:(r.drop 64).length=r.length-64:=List.length_drop;repeat' first|refine O ?_|intro
 rename_i g6;refine VH (l:=List.replicate 64 0) (a:=r) rfl ?_;rw[b0n];repeat' first|refine O ?_|intro
 refine dG (min r.length 64) r.length ?_ (h4:=Nat.le_refl _);rw[List.take_length,show r.drop (min r.length 64)=r.drop 64 by
  by_cases h:r.length<=64
  ·rw[Nat.min_eq_left h,List.drop_length,List.drop_of_length_le h]
  rw[Nat.min_eq_right om]]
 repeat' first|refine O ?_|intro
 apply zd [0];exact zg
 ·intro _ _;refine Em (l:=aA r) ?_;exact j5 (A7 rfl rfl)
 apply aH [2,3,4];exact rfl;exact rfl;kernel_rfl;kernel_rfl;intro _ _;refine T9 (Tg (I:={ I.toDvI with vw:=v }) (x:=y) (a:=a) (s:=aA r) hy.lf om) (λu m1 hu=>?_);obtain⟨rfl,v',rfl⟩:=hu;refine j5 (W9 (I6 { I.toDvI with vw:=v' } (bN y a (aA r)).1) [] rfl rfl lpr rfl ?_);have hy2:DvOk (bN y a (aA r)).1:=OX hy;have hw2:=Bv (x:=y) (a:=a) (s:=aA r);rw[a4u hr] at he;by_cases hz:(bN y a (aA r)).2=0
 ·rw[if_pos hz] at he;rw[hz];repeat' first|refine O ?_|intro
  refine bG (U4 { I with vw:=v' } (bN y a (aA r)).1 s) _ ?_ lpr (List.sublist_cons_self _ _);exact y7 ((bN y a (aA r)).1,v',a+1,r.drop 64) za slr ⟨hy2,he,by dsimp only;omega,by dsimp only;omega,by dsimp only;omega⟩ (by dsimp only;omega)
 rw[if_neg hz] at he;rw[<- he];repeat' first|refine O ?_|intro
 refine bG (U4 { I with vw:=v' } (bN y a (aA r)).1 s) _ ?_ lpr (List.sublist_cons_self _ _);exact j4 _ ⟨rfl,v',rfl⟩ slr
theorem Mq:∀ {f:Nat} {x:DvX} {a:Int} {s:Bs},(nI f x a s).1.ws.length<=x.ws.length+f
 | 0,_,_,_=>Nat.le_refl _
 | f+1,x,a,s=>by
  unfold nI;have h1:=Bv (x:=x) (a:=a) (s:=aA s);split
  ·exact Nat.le_add_right _ _
  split
  ·have:=Mq (f:=f) (x:=(bN x a (aA s)).1) (a:=a+1) (s:=s.drop 64);omega
  omega
theorem a4t {a:Int}{s:Bs}:(uQ x a s).1.ws.length<=x.ws.length+s.length:=Mq
theorem a9y :(kV x).1.ws.length<=x.ws.length:=by
 unfold kV
 (repeat' split) <;> simp[vD,iL,V3]
theorem Ta {A:List Av.Piece}(hlf:0<=x.lf/\x.lf<=1000000)(hl:x.ws.length<=1000000):Av.Spec prog GL 153 [ptr g2] (U4 I x s++(.var g2 T2 (ptr I.gs)::A))
  λu m=>u=int (kV x).2/\∃ v,m=U4 { I with vw:=v } (kV x).1 s++(.var g2 T2 (ptr I.gs)::A):=by
 refine zc func153 ntmps153 λ_ hs=>?_;repeat' first|refine O ?_|intro
 refine aI [_] (I6 I.toDvI x) (.var g2 T2 (ptr I.gs)::A) (a8M hlf hl) (λu m1 hu=>?_);obtain⟨rfl,v,rfl⟩:=hu;repeat' first|refine O ?_|intro
 exact j4 _ ⟨rfl,v,rfl⟩ slr
theorem a8k {A:List Av.Piece}(hx:DvOk x)(hb:0<=s.m.b/\s.m.b<=1000000)(hl:x.ws.length+l.length<=1000000):Av.Spec prog GL 156 [ptr g2,ptr g7] (U4 I x s++(.var g2 T2 (ptr I.gs)::.var g7 T7 (str l)::A))
  λu m=>u=int (uQ x (2+s.m.b / 64) l).2/\∃ v,m=U4 { I with vw:=v } (uQ x (2+s.m.b / 64) l).1 s++(.var g2 T2 (ptr I.gs)::.var g7 T7 (str l)::A):=by
 refine zc func156 ntmps156 λ_ hs=>?_;repeat' first|refine O ?_|intro
 refine aI [] (U4 I x s) (.var g2 T2 (ptr I.gs)::.var g7 T7 (str l)::A) (a8f hx hb hl) (λu m1 hu=>?_);obtain⟨rfl,v,rfl⟩:=hu;repeat' first|refine O ?_|intro
 exact j4 _ ⟨rfl,v,rfl⟩ slr
theorem a8j {g8:Nat}{M:MkX}(hM:MkB M)(hlf:0<=x.lf/\x.lf<=1000000)(hl:x.ws.length<=1000000):Av.Spec prog GL 158 [ptr g2,ptr g8] (U4 I x s++[.var g2 T2 (ptr I.gs),.var g7 T7 (str l),.var g8 206 (oU M)])
  λu m=>u=int (bN x (M.e%2) (V7 M)).2/\∃ v,m=U4 { I with vw:=v } (bN x (M.e%2) (V7 M)).1 s++[.var g2 T2 (ptr I.gs),.var g7 T7 (str l),.var g8 206 (oU M)]:=by
 have he:=hM.e;refine zc func158 ntmps158 λ_ hs=>?_;repeat' first|refine O ?_|intro
 apply aH [1,2,3];exact rfl;exact rfl;kernel_rfl;kernel_rfl;intro _ _;refine T9 (Tg (I:=I.toDvI) (x:=x) (a:=M.e%2) (s:=V7 M) hlf hl) (λu m1 hu=>?_);obtain⟨rfl,v,rfl⟩:=hu;refine j5 (W9 (I6 { I.toDvI with vw:=v } (bN x (M.e%2) (V7 M)).1) [] rfl rfl lpr rfl ?_);repeat' first|refine O ?_|intro
 exact j4 _ ⟨rfl,v,rfl⟩ slr
def cmX (x:DvX)(s:SlX)(r:Bs):Nat->DvX
 | 0=>x
 | 1=>(eF x s r).1
 | 2=>(fI x s r).1
 | 3=>(fH x s r).1
 | _=>(jG x s r).1
def mG (x:DvX)(s:SlX)(r:Bs):DvX × Int:=if (eF x s r).2≠0 then eF x s r else if (fI x s r).2≠0 then fI x s r else if (fH x s r).2≠0 then fH x s r else jG x s r
abbrev wT (T2 T7:TypeId)(g2 g7 g8:Nat)(gs:Nat)(l:Bs)(M:MkX):List Av.Piece:=[.var g2 T2 (ptr gs),.var g7 T7 (str l),.var g8 206 (oU M)]
abbrev Xl (g2 g7 g8:Nat):List AV:=[F3 156 [.pointer (some ⟨g2,0,none⟩),.pointer (some ⟨g7,0,none⟩)],F3 153 [.pointer (some ⟨g2,0,none⟩)],
 F3 158 [.pointer (some ⟨g2,0,none⟩),.pointer (some ⟨g8,0,none⟩)],F3 153 [.pointer (some ⟨g2,0,none⟩)]]
theorem a8h {r:Bs}{g8:Nat}(hx:DvOk x)(hb:0<=s.m.b/\s.m.b<=1000000)(hM:MkB (K4 s r))(hl:x.ws.length+(L9 s.l++I8 r).length+1<=1000000)(hbr:s.br=false) :
  Av.Spec prog GL 155 [ptr I.gs,.sl 1 (Xl g2 g7 g8) none] (U4 I x s++wT T2 T7 g2 g7 g8 I.gs (L9 s.l++I8 r) (K4 s r))
  λu m=>u=int (mG x s r).2/\∃ v,m=U4 { I with vw:=v } (mG x s r).1 { s with br:=decide ((mG x s r).2≠0) }++wT T2 T7 g2 g7 g8 I.gs (L9 s.l++I8 r) (K4 s r):=by
 have h1:DvOk (eF x s r).1:=Mt hx;have h2:DvOk (fI x s r).1:=Ca h1;have h3:DvOk (fH x s r).1:=OX h2;have w1:(eF x s r).1.ws.length<=x.ws.length+(L9 s.l++I8 r).length:=a4t;have w2:(fI x s r).1.ws.length<=(eF x s r).1.ws.length:=a9y;have w3:(fH x s r).1.ws.length<=(fI x s r).1.ws.length+1:=Bv;have hcs1:∀ v∈[Value.pointer (some ⟨g2,0,none⟩),.pointer (some ⟨g7,0,none⟩)],v.oneCell'=true:=by simp[Value.oneCell']
 have hcs2:∀ v∈[Value.pointer (some ⟨g2,0,none⟩)],v.oneCell'=true:=by simp[Value.oneCell']
 have hcs3:∀ v∈[Value.pointer (some ⟨g2,0,none⟩),.pointer (some ⟨g8,0,none⟩)],v.oneCell'=true:=by simp[Value.oneCell']
 have hs0:({ s with br:=false }:SlX)=s:=by rw[<- hbr]
 generalize hlL:L9 s.l++I8 r=L at hl w1 ⊢;generalize hlM:K4 s r=M at hM ⊢;have c1:∀ v,Av.Spec prog GL 156 [ptr g2,ptr g7] (U4 { I with vw:=v } x s++wT T2 T7 g2 g7 g8 I.gs L M) λu m=>u=int (eF x s r).2/\∃ v,m=U4 { I with vw:=v } (eF x s r).1 s++wT T2 T7 g2 g7 g8 I.gs L M:=λv=>by
  unfold eF;rw[hlL];exact a8k (I:={ I with vw:=v }) hx hb om
 have c2:∀ v,Av.Spec prog GL 153 [ptr g2] (U4 { I with vw:=v } (eF x s r).1 s++wT T2 T7 g2 g7 g8 I.gs L M) λu m=>u=int (fI x s r).2/\∃ v,m=U4 { I with vw:=v } (fI x s r).1 s++wT T2 T7 g2 g7 g8 I.gs L M:=λv=>Ta (I:={ I with vw:=v }) h1.lf om;have c3:∀ v,Av.Spec prog GL 158 [ptr g2,ptr g8] (U4 { I with vw:=v } (fI x s r).1 s++wT T2 T7 g2 g7 g8 I.gs L M) λu m=>u=int (fH x s r).2/\∃ v,m=U4 { I with vw:=v } (fH x s r).1 s++wT T2 T7 g2 g7 g8 I.gs L M:=λv=>by
  unfold fH;rw[hlM];exact a8j (I:={ I with vw:=v }) hM h2.lf om
 have c4:∀ v,Av.Spec prog GL 153 [ptr g2] (U4 { I with vw:=v } (fH x s r).1 s++wT T2 T7 g2 g7 g8 I.gs L M) λu m=>u=int (jG x s r).2/\∃ v,m=U4 { I with vw:=v } (jG x s r).1 s++wT T2 T7 g2 g7 g8 I.gs L M:=λv=>Ta (I:={ I with vw:=v }) h3.lf om;refine zc func155 ntmps155 λ_ hs=>?_;repeat' first|refine O ?_|intro
 refine H7 (α:=Nat × Value) (λz=>[(0,ptr I.gs),(8,.sl 1 (Xl g2 g7 g8) none),(9,int 4),(10,int z.1)]) (λz=>U4 { I with vw:=z.2 } (cmX x s r z.1) s++wT T2 T7 g2 g7 g8 I.gs L M)
  (λz=>z.1<=4/\(1<=z.1->(eF x s r).2=0)/\(2<=z.1->(fI x s r).2=0)/\(3<=z.1->(fH x s r).2=0)/\(4<=z.1->(jG x s r).2=0)) (λz=>4-z.1) (0,I.vw) za slr
  ⟨Nat.zero_le _,λh=>absurd h (by dsimp only;omega),λh=>absurd h (by dsimp only;omega),λh=>absurd h (by dsimp only;omega),λh=>absurd h (by dsimp only;omega)⟩ ?_
 rintro⟨i,v⟩ ⟨hi,f1,f2,f3,f4⟩;dsimp only at hi f1 f2 f3 f4 ⊢;rcases i with _|_|_|_|_|i
 ·skip
  repeat' first|refine O ?_|intro
  refine ER (args:=[]) (cs:=[.pointer (some ⟨g2,0,none⟩),.pointer (some ⟨g7,0,none⟩)]) (c1 v) (λu m1 hu=>?_) (hcs:=hcs1);obtain⟨rfl,v',rfl⟩:=hu;by_cases he:(eF x s r).2=0
  ·repeat' first|refine O ?_|intro
   exact y7 (1,v') za slr ⟨by dsimp only;omega,λ_=>he,λh=>absurd h (by dsimp only;omega),λh=>absurd h (by dsimp only;omega),λh=>absurd h (by dsimp only;omega)⟩ (by dsimp only;omega)
  have hd:mG x s r=eF x s r:=by unfold mG;rw[if_pos he]
  rw[hd,dT he];repeat' first|refine O ?_|intro
  exact j4 _ ⟨rfl,v',rfl⟩ slr
 ·skip
  have e1:=f1 om;repeat' first|refine O ?_|intro
  refine ER (args:=[]) (cs:=[.pointer (some ⟨g2,0,none⟩)]) (c2 v) (λu m1 hu=>?_) (hcs:=hcs2);obtain⟨rfl,v',rfl⟩:=hu;by_cases he:(fI x s r).2=0
  ·repeat' first|refine O ?_|intro
   exact y7 (2,v') za slr ⟨by dsimp only;omega,λ_=>e1,λ_=>he,λh=>absurd h (by dsimp only;omega),λh=>absurd h (by dsimp only;omega)⟩ (by dsimp only;omega)
  have hd:mG x s r=fI x s r:=by unfold mG;rw[if_neg (nni e1)];rw[if_pos he]
  rw[hd,dT he];repeat' first|refine O ?_|intro
  exact j4 _ ⟨rfl,v',rfl⟩ slr
 ·skip
  have e1:=f1 om;have e2:=f2 om;repeat' first|refine O ?_|intro
  refine ER (args:=[]) (cs:=[.pointer (some ⟨g2,0,none⟩),.pointer (some ⟨g8,0,none⟩)]) (c3 v) (λu m1 hu=>?_) (hcs:=hcs3);obtain⟨rfl,v',rfl⟩:=hu;by_cases he:(fH x s r).2=0
  ·repeat' first|refine O ?_|intro
   exact y7 (3,v') za slr ⟨by dsimp only;omega,λ_=>e1,λ_=>e2,λ_=>he,λh=>absurd h (by dsimp only;omega)⟩ (by dsimp only;omega)
  have hd:mG x s r=fH x s r:=by unfold mG;rw[if_neg (nni e1)];rw[if_neg (nni e2)];rw[if_pos he]
  rw[hd,dT he];repeat' first|refine O ?_|intro
  exact j4 _ ⟨rfl,v',rfl⟩ slr
 ·skip
  have e1:=f1 om;have e2:=f2 om;have e3:=f3 om;repeat' first|refine O ?_|intro
  refine ER (args:=[]) (cs:=[.pointer (some ⟨g2,0,none⟩)]) (c4 v) (λu m1 hu=>?_) (hcs:=hcs2);obtain⟨rfl,v',rfl⟩:=hu;by_cases he:(jG x s r).2=0
  ·repeat' first|refine O ?_|intro
   exact y7 (4,v') za slr ⟨by dsimp only;omega,λ_=>e1,λ_=>e2,λ_=>e3,λ_=>he⟩ (by dsimp only;omega)
  have hd:mG x s r=jG x s r:=by unfold mG;rw[if_neg (nni e1)];rw[if_neg (nni e2)];rw[if_neg (nni e3)]
  rw[hd,dT he];repeat' first|refine O ?_|intro
  exact j4 _ ⟨rfl,v',rfl⟩ slr
 ·have e1:=f1 om;have e2:=f2 om;have e3:=f3 om;have e4:=f4 om;have hd:mG x s r=jG x s r:=by unfold mG;rw[if_neg (nni e1),if_neg (nni e2),if_neg (nni e3)]
  rw[hd,e4,dZ dc,hs0];repeat' first|refine O ?_|intro
  exact j4 _ ⟨rfl,v,rfl⟩ slr
 omega
end
end Go.Proofs.Z

namespace Go.Proofs.Z
open Go Go.RowKit Tw Av
theorem Un {x y:DvX}(h:y.es=x.es):M0 y=M0 x:=by
 funext a
 unfold M0;rw[h]
theorem b0j {x:DvX}{k:List Bool}{torn cut:Int}(hn:x.n≠0):(Y3 x k torn cut).on=true/\(Y3 x k torn cut).ws=[]/\(Y3 x k torn cut).n=x.n/\(Y3 x k torn cut).ar=false:=by
 unfold Y3;rw[if_neg hn];exact⟨rfl,rfl,(Co _ _ _).1,rfl⟩
theorem Br (l:Bs):(L9 l).length<64:=by
 unfold L9;rw[List.length_drop];omega
theorem b0J {l r:Bs}{j:Nat}(hj:64*(l.length / 64+j)<l.length):(aA ((L9 l++r).drop (64*j))).take (l.length-64*(l.length / 64+j))=(l.drop (64*(l.length / 64+j))).take 64:=by
 obtain rfl:j=0:=by omega
 have he:l.length-64*(l.length / 64+0)=(L9 l).length:=by
  unfold L9;rw[List.length_drop];omega
 have hd:l.drop (64*(l.length / 64+0))=L9 l:=by
  unfold L9;congr 1
  omega
 have hl:=Br l;rw[he,hd,Nat.mul_zero,List.drop_zero,Ny (by rw[lla];omega) om,List.take_left,List.take_of_length_le om]
theorem b0K {l r:Bs}{j:Nat}:(aA ((L9 l++r).drop (64*j))).take ((l++r).length-64*(l.length / 64+j))=((l++r).drop (64*(l.length / 64+j))).take 64:=by
 have hd:(l++r).drop (64*(l.length / 64+j))=(L9 l++r).drop (64*j):=by
  have h1:(l++r).drop (64*(l.length / 64))=L9 l++r:=by
   rw[List.drop_append_of_le_length om];unfold L9;congr 2
   omega
  rw[show 64*(l.length / 64+j)=64*(l.length / 64)+64*j by omega,<- List.drop_drop,h1]
 rw[hd];have hl:((L9 l++r).drop (64*j)).length=(l++r).length-64*(l.length / 64+j):=by
  rw[<- hd,List.length_drop]
 rw[<- hl,a4Z]
section
variable {x:DvX} {s:SlX} {r:Bs}
structure LogOk (x:DvX)(s:SlX):Prop where
 dv:DvOk x
 on:x.on=true
 ws:x.ws=[]
 fit:DFits (M0 x) s.l s.m
 b:s.m.b=s.l.length
 rm:s.m.b<=Y6 x.n
 n:3<=x.n
 br:s.br=false
 e:s.m.e<190
 c:0<=s.m.c/\s.m.c<=1000
def Old (y:DvX)(s s':SlX):Prop:=DvOk y/\∀ k torn cut,DFits (M0 (Y3 y k torn cut)) s.l s.m\/DFits (M0 (Y3 y k torn cut)) s'.l s'.m
def FT (s:SlX)(r:Bs):SlX:=⟨K4 s r,s.l++I8 r,false⟩
theorem Og {y:DvX}(h:LogOk x s)(hy:DvOk y)(he:y.es=x.es)(hw:∀ w∈y.ws,w∈wW (L9 s.l++I8 r).length (2+s.m.b / 64) (L9 s.l++I8 r)):Old y s (FT s r):=by
 refine⟨hy,λk torn cut=>.inl ?_⟩;refine Uu (λf=>DFits f s.l s.m) hy ?_ ?_
 ·intro w hm f c hf hP;obtain⟨j,rfl,hj⟩:=Xo (hw w hm);have ha:(2+s.m.b / 64+(j:Int))=2+((s.l.length / 64+j:Nat):Int):=by
   rw[h.b];omega
  dsimp only;rw[ha];exact⟨Gs hf (YP _),a2d hf hP.lg (YP _) b0J,a1D om hP.mr⟩
 rw[Un he];exact h.fit
theorem Oj (h:LogOk x s)(hr:(I8 r).length<=Y6 x.n-s.m.b):MkB (K4 s r):=by
 have h1:=h.fit.mr.e;have h2:=h.b;have h3:=h.c;have h4:=h.e;have h5:=h.dv.n;have h6:Y6 x.n=(x.n-2)*64:=rfl;exact⟨by unfold K4;dsimp only;omega,by unfold K4;dsimp only;omega,by unfold K4;dsimp only;omega⟩
theorem Oe {z y:DvX}(h:LogOk x s)(hr:(I8 r).length<=Y6 x.n-s.m.b)(hz:DFits (M0 z) (s.l++I8 r) s.m)(hy:DvOk y)(he:M0 y=M0 z)(hw:∀ w∈y.ws,w=((K4 s r).e%2,V7 (K4 s r))):Old y s (FT s r):=by
 refine⟨hy,λk torn cut=>?_⟩;have hB:=Oj h hr;have hE:(K4 s r).e=s.m.e+1:=rfl;have hpre:∀ {f:Int->Bs},LgI f (s.l++I8 r)->LgI f s.l:=by
  intro f hf j hj;have h1:=hf j (by rw[lla];omega);have h2:=congrArg (List.take (s.l.length-64*j)) h1;rw[List.take_take,lla,Nat.min_eq_left om,List.take_take,List.drop_append_of_le_length om] at h2;rw[h2];by_cases hh:s.l.length-64*j<=64
  ·rw[Nat.min_eq_left hh,List.take_append_of_le_length (by rw[List.length_drop];omega),List.take_of_length_le (by rw[List.length_drop];omega),List.take_of_length_le (by rw[List.length_drop];omega)]
  rw[Nat.min_eq_right om,List.take_append_of_le_length (by rw[List.length_drop];omega)]
 have key:(∀ a,(M0 (Y3 y k torn cut) a).length=64)/\LgI (M0 (Y3 y k torn cut)) (s.l++I8 r)/\(MkI (M0 (Y3 y k torn cut)) s.m\/MkI (M0 (Y3 y k torn cut)) (K4 s r)):=by
  refine Uu (λf=>(∀ a,(f a).length=64)/\LgI f (s.l++I8 r)/\(MkI f s.m\/MkI f (K4 s r))) hy ?_ ?_
  ·intro w hm f c hf hP;obtain rfl:=hw w hm;dsimp only;refine⟨Gs hf (SI _),Gr om hP.2.1,?_⟩;rcases hP.2.2 with hm|hm
   ·exact a2c hf hm hB hE (by have:=h.e;omega)
   right
   have e1:tn c (V7 (K4 s r)) (f ((K4 s r).e%2))=f ((K4 s r).e%2):=by
    rw[hm.at_];unfold tn;exact List.take_append_drop _ _
   have e2:dJ f ((K4 s r).e%2) (f ((K4 s r).e%2))=f:=by
    funext b
    unfold dJ;split
    ·rename_i hb;rw[hb]
    rfl
   rw[e1,e2];exact hm
  rw[he];exact⟨hz.len,hz.lg,.inl hz.mr⟩
 rcases key.2.2 with hm|hm
 ·exact .inl ⟨key.1,hpre key.2.1,hm⟩
 exact .inr ⟨key.1,key.2.1,hm⟩
end

theorem a8Z {x:DvX}{s:SlX}{r:Bs}(h:LogOk x s){y:DvX}(hn:MpN y.es)(he:y.es=x.es)(hw:y.ws=wW (L9 s.l++I8 r).length (2+s.m.b / 64) (L9 s.l++I8 r))(hy:DvOk y):DFits (M0 (iL y)) (s.l++I8 r) s.m:=by
 have hb:=h.b;have hsf:∀ a,M0 (iL y) a=if 2+s.m.b / 64<=a/\64*(a-(2+s.m.b / 64))<(L9 s.l++I8 r).length then aA ((L9 s.l++I8 r).drop (64*(a-(2+s.m.b / 64)).toNat)) else M0 x a:=by
  intro a;rw[Us hn a];unfold fF;rw[hw,Xp a (Nat.le_refl _),Un he];split <;> rfl
 have hlow:∀ a,a<2->M0 (iL y) a=M0 x a:=by
  intro a ha;rw[hsf,if_neg om]
 have hmr:=h.fit.mr;refine⟨GN (Ut hy),?_,hmr.e,hmr.b,?_,?_⟩
 ·intro j hj;rw[hsf];have hel:(L9 s.l).length=s.l.length%64:=by
   unfold L9;rw[List.length_drop];omega
  have hal:(L9 s.l++I8 r).length=s.l.length%64+(I8 r).length:=by rw[lla,hel]
  rw[lla] at hj ⊢;by_cases h1:s.l.length / 64<=j
  ·obtain⟨i,rfl⟩:∃ i,j=s.l.length / 64+i:=⟨j-s.l.length / 64,om⟩;rw[if_pos om];have e1:(2+((s.l.length / 64+i:Nat):Int)-(2+s.m.b / 64)).toNat=i:=by omega
   rw[e1];have:=b0K (l:=s.l) (r:=I8 r) (j:=i);rw[lla] at this;exact this
  rw[if_neg om];have h2:=h.fit.lg j om;rw[List.take_of_length_le (by rw[h.fit.len];omega)] at h2 ⊢;rw[h2,List.drop_append_of_le_length om,List.take_append_of_le_length (by rw[List.length_drop];omega)]
 ·rw[hlow _ om];exact hmr.at_
 rw[hlow _ om];exact hmr.oth
inductive CmS (x:DvX)(s:SlX)(r:Bs):DvX × SlX × Int->Prop where
 | no (e:Int) (he:e=11/\1048576<r.length\/e=15/\Y6 x.n-s.m.b<(I8 r).length):CmS x s r (x,s,e)
 | lost (y:DvX) (hy:y.n=x.n) (ha:x.ar=true) (h:Old y s (FT s r)):CmS x s r (y,{ s with br:=true },14)
 | yes (y:DvX) (hy:y.n=x.n) (ha:y.ar=x.ar) (hr:r.length<=1048576) (h:LogOk y (FT s r)\/(190<=(K4 s r).e\/1000<(K4 s r).c)) (hf:DFits (M0 y) (s.l++I8 r) (K4 s r)/\DvOk y/\y.on=true/\y.ws=[]/\s.m.b+(I8 r).length<=Y6 x.n):CmS x s r (y,FT s r,0)
theorem b0A {x:DvX}{s:SlX}{r:Bs}(h:LogOk x s):CmS x s r (sD x s r):=by
 unfold sD;rw[if_neg (by rw[h.br];decide)];by_cases h1:1048576<r.length
 ·rw[if_pos h1];exact .no 11 (.inl ⟨rfl,h1⟩)
 rw[if_neg h1];by_cases h2:Y6 x.n-s.m.b<(I8 r).length
 ·rw[if_pos h2];exact .no 15 (.inr ⟨rfl,h2⟩)
 rw[if_neg h2];have hr:((I8 r).length:Int)<=Y6 x.n-s.m.b:=by omega
 have hb:=h.b;have hn:=h.n;have hrd:Y6 x.n=(x.n-2)*64:=rfl;have hel:=Br s.l;have hal:(L9 s.l++I8 r).length=(L9 s.l).length+(I8 r).length:=lla;have hle:(L9 s.l).length=s.l.length%64:=by
  unfold L9;rw[List.length_drop];omega
 have hE0:=h.fit.mr.e;have hB:=Oj h hr;have hE:(K4 s r).e=s.m.e+1:=rfl;have k1:DvOk (eF x s r).1:=Mt h.dv;have k2:DvOk (fI x s r).1:=Ca k1;have k3:DvOk (fH x s r).1:=OX k2;have k4:DvOk (jG x s r).1:=Ca k3;rcases Mr (f:=(L9 s.l++I8 r).length) (x:=x) (a:=2+s.m.b / 64) (s:=L9 s.l++I8 r) (Nat.le_refl _) h.on om om with⟨y,hp,hon,hes,hyn,har,hws⟩|⟨y,p,hp,har,hon,hes,hyn,hws,hmem⟩
 rotate_left
 ·have e1:eF x s r=(y,14):=hp;rw[e1] at k1;rw[e1,if_pos (show ((14:Int))≠0 by decide)];rw[h.ws,List.nil_append] at hws;exact .lost y hyn har (Og h k1 hes (λw hw=>hmem w (hws ▸ hw)))
 have e1:eF x s r=(y,0):=hp;rw[h.ws,List.nil_append] at hws;rw[e1] at k1;rw[e1,if_neg (show ¬ (((0:Int))≠0) by decide)];have e2:fI x s r=kV y:=by unfold fI;rw[e1]
 have hfl:kV y=if mE y=false then (vD y,14) else (iL (V3 y),0):=by
  unfold kV;rw[if_neg (by rw[hon];decide)]
 cases hm:mE y with
 | false=>
  rw[hm,if_pos rfl] at hfl;rw[e2,hfl,if_pos (show ((14:Int))≠0 by decide)];exact .lost _ hyn (by rw[<- har];exact UH hm) (Og h (Bz k1) hes (λw hw=>hws ▸ hw))
 | true=>
  rw[hm,if_neg dc] at hfl;have k1':=UG k1 hm;have hz:DFits (M0 (iL (V3 y))) (s.l++I8 r) s.m:=a8Z h k1'.mn hes hws k1';rw[e2,hfl] at k2;rw[e2,hfl,if_neg (show ¬ (((0:Int))≠0) by decide)];generalize hZ:iL (V3 y)=z at *;have hzn:z.n=x.n:=by rw[<- hZ];exact(GI (ws:=(V3 y).ws) (x:=V3 y)).1.trans hyn
  have hzo:z.on=true:=by rw[<- hZ];exact(GI (ws:=(V3 y).ws) (x:=V3 y)).2.1.trans hon
  have hza:z.ar=x.ar:=by rw[<- hZ];exact(GI (ws:=(V3 y).ws) (x:=V3 y)).2.2.1.trans har
  have hzw:z.ws=[]:=by rw[<- hZ];rfl
  have e3:fH x s r=bN z ((K4 s r).e%2) (V7 (K4 s r)):=by unfold fH;rw[e2,hfl]
  have hwr:=Ul (x:=z) (a:=(K4 s r).e%2) (s:=V7 (K4 s r)) hzo ⟨om,om⟩ (SI _);cases hm2:mE z with
  | false=>
   rw[hm2,if_pos rfl] at hwr;rw[e3,hwr] at k3;rw[e3,hwr,if_pos (show ((14:Int))≠0 by decide)];refine .lost _ hzn (by rw[<- hza];exact UH hm2) (Oe h hr hz k3 rfl ?_);intro w hw;have hw':w∈z.ws++[((K4 s r).e%2,V7 (K4 s r))]:=hw;rw[hzw] at hw';simpa using hw'
  | true=>
   rw[hm2,if_neg dc] at hwr;rw[e3,hwr] at k3;rw[e3,hwr,if_neg (show ¬ (((0:Int))≠0) by decide)];generalize hU:nN (V3 z) ((K4 s r).e%2,V7 (K4 s r))=u at *;have hun:u.n=x.n:=by rw[<- hU];exact hzn
   have huo:u.on=true:=by rw[<- hU];exact hzo
   have hua:u.ar=x.ar:=by rw[<- hU];exact hza
   have huw:u.ws=[((K4 s r).e%2,V7 (K4 s r))]:=by rw[<- hU];show z.ws++_=_;rw[hzw];rfl
   have hus:M0 u=M0 z:=by rw[<- hU];rfl
   have e4:jG x s r=kV u:=by unfold jG;rw[e3,hwr]
   have hfl2:kV u=if mE u=false then (vD u,14) else (iL (V3 u),0):=by
    unfold kV;rw[if_neg (by rw[huo];decide)]
   cases hm3:mE u with
   | false=>
    rw[hm3,if_pos rfl] at hfl2;rw[e4,hfl2] at k4;rw[e4,hfl2,if_pos (show ((14:Int))≠0 by decide)];refine .lost _ hun (by rw[<- hua];exact UH hm3) (Oe h hr hz k4 hus ?_);intro w hw;have hw':w∈u.ws:=hw;rw[huw] at hw';simpa using hw'
   | true=>
    rw[hm3,if_neg dc] at hfl2;have k3':=UG k3 hm3;rw[e4,hfl2] at k4;rw[e4,hfl2,if_neg (show ¬ (((0:Int))≠0) by decide)];have hsf:M0 (iL (V3 u))=dJ (M0 z) ((K4 s r).e%2) (V7 (K4 s r)):=by
     funext b
     rw[Us k3'.mn b];unfold fF;have hw:(V3 u).ws=[((K4 s r).e%2,V7 (K4 s r))]:=huw;have hss:M0 (V3 u)=M0 z:=hus;rw[hw,hss,VW];unfold dJ;by_cases hbe:b=(K4 s r).e%2
     ·rw[if_pos hbe,hbe];simp[gY]
     rw[if_neg hbe];have:¬ (K4 s r).e%2=b:=λe=>hbe e.symm;simp[gY,this]
    have hmk:MkI (dJ (M0 z) ((K4 s r).e%2) (V7 (K4 s r))) (K4 s r):=by
     have:=h.e;refine⟨om,hB,by unfold dJ;rw[if_pos rfl],s.m.e.toNat,?_,om,.inl om⟩;unfold dJ;rw[if_neg om,show ((K4 s r).e+1)%2=s.m.e%2 by omega,hz.mr.at_];exact(NQ s.m).2.2.2
    have hfit:DFits (M0 (iL (V3 u))) (s.l++I8 r) (K4 s r):=⟨GN k4,by rw[hsf];exact Gr om hz.lg,by rw[hsf];exact hmk⟩;have hyn4:(iL (V3 u)).n=x.n:=(GI (ws:=(V3 u).ws) (x:=V3 u)).1.trans hun;have hon4:(iL (V3 u)).on=true:=(GI (ws:=(V3 u).ws) (x:=V3 u)).2.1.trans huo;have har4:(iL (V3 u)).ar=x.ar:=(GI (ws:=(V3 u).ws) (x:=V3 u)).2.2.1.trans hua;refine .yes _ hyn4 har4 om ?_ ⟨hfit,k4,hon4,rfl,om⟩;by_cases hbig:190<=(K4 s r).e\/1000<(K4 s r).c
    ·exact .inr hbig
    have hbn:(K4 s r).b=s.m.b+(I8 r).length:=rfl;refine .inl ⟨k4,hon4,rfl,hfit,?_,?_,?_,rfl,?_,?_⟩
    ·show s.m.b+((I8 r).length:Int)=((s.l++I8 r).length:Int);rw[lla];omega
    ·show s.m.b+((I8 r).length:Int)<=Y6 (iL (V3 u)).n;rw[hyn4];omega
    ·rw[hyn4];exact hn
    ·show (K4 s r).e<190;omega
    show 0<=(K4 s r).c/\(K4 s r).c<=1000;have:=hB.c;omega
end Go.Proofs.Z

namespace Go.Proofs.Z
open Go Go.RowKit Tw Av Go.Proofs.Tryz
theorem Cy {xs:List AV}{id:Option Value}(hx:xs.length<=1073741824):Av.Spec prog GL 41 [.sl 2 xs id] [] (OwnK 88 2 xs):=by
 refine zc func41 ntmps41 λ_ hs=>?_;repeat' first|refine Wz ?_|intro
 refine Eo (λq c hq hc=>?_);repeat' first|refine Wz ?_|intro
 injection hc with hc
 subst hc;refine xF (λh=>?_) (λh=>?_)
 ·repeat' first|refine Wz ?_|intro
  exact j4 [] (.inl ⟨hq h,rfl,rfl⟩) (List.nil_sublist _)
 repeat' first|refine Wz ?_|intro
 refine Ev (λg=>?_);repeat' first|refine Wz ?_|intro
 refine IG (λg' c' hc'=>?_);repeat' first|refine Wz ?_|intro
 refine j4 [.buf g' 88 2 ([]++xs) c'] (.inr ⟨g',c',?_,rfl,?_⟩) slr
 ·simp[L6]
 simpa using hc'
theorem a7c {α:Type}(xs:List α)(i:Nat)(x:α)(h:i<=xs.length):over (over xs (i+1) ((xs.drop i).take (xs.length-i))) i [x]=xs.take i++x::xs.drop i:=by
 obtain⟨a,b,rfl,rfl⟩:∃ a b,xs=a++b/\a.length=i:=⟨xs.take i,xs.drop i,(List.take_append_drop _ _).symm,by simp;omega⟩;rw[List.drop_left,List.take_left,show (a++b).length-a.length=b.length by simp,List.take_length];cases b with
 | nil=>simp[over]
 | cons y b=>
  have e1:over (a++y::b) (a.length+1) (y::b)=a++y::y::b:=by
   unfold over;rw[List.drop_of_length_le sm,show a++y::b=(a++[y])++b by simp,show a.length+1=(a++[y]).length by simp,List.take_left];simp
  rw[e1];unfold over;rw[List.take_left,show a++y::y::b=(a++[y])++(y::b) by simp,show a.length+[x].length=(a++[y]).length by simp,List.drop_left];simp
theorem a7a {α:Type}(xs:List α)(i q:Nat)(x z:α)(h:i<=xs.length)(hq:i+q=xs.length+1):over (over (xs.take i++List.replicate q z) i [x]) (i+1) ((xs.drop i).take (q-1))=xs.take i++x::xs.drop i:=by
 obtain⟨a,b,rfl,rfl⟩:∃ a b,xs=a++b/\a.length=i:=⟨xs.take i,xs.drop i,(List.take_append_drop _ _).symm,by simp;omega⟩;simp only[List.length_append] at hq;obtain rfl:q=b.length+1:=by omega
 rw[List.drop_left,List.take_left,show b.length+1-1=b.length by omega,List.take_length];have e1:over (a++List.replicate (b.length+1) z) a.length [x]=a++x::List.replicate b.length z:=by
  unfold over;rw[List.take_left,List.replicate_succ,show a++z::List.replicate b.length z=(a++[z])++List.replicate b.length z by simp,show a.length+[x].length=(a++[z]).length by simp,List.drop_left];simp
 rw[e1];unfold over;rw[show a++x::List.replicate b.length z=(a++[x])++List.replicate b.length z by simp,show a.length+1=(a++[x]).length by simp,List.take_left,List.drop_of_length_le (by simp;omega)];simp
theorem Od {α:Type}(x:α)(p:Nat)(h:1<=p):([x].drop 0).take p=[x]:=List.take_of_length_le (by simpa using h)
theorem Ra {α:Type}{xs:List α}{i:Nat}{x:α}{p q:Nat}(h:i<=xs.length)(hp:p=xs.length-i)(hq:1<=q):over (over xs (i+1) ((xs.drop i).take p)) i (([x].drop 0).take q)=xs.take i++x::xs.drop i:=by
 rw[Od x q hq,hp];exact a7c xs i x h
theorem Qz {α:Type}{xs:List α}{i q:Nat}{x z:α}{p r:Nat}(h:i<=xs.length)(hq:i+q=xs.length+1)(hp:p=q-1)(hr:1<=r):over (over (xs.take i++List.replicate q z) i (([x].drop 0).take r)) (i+1) ((xs.drop i).take p)=xs.take i++x::xs.drop i:=by
 rw[Od x r hr,hp];exact a7a xs i q x z h hq
theorem a6Y {gv:Nat}{x:AV}:Av.Spec prog GL 184 [K5,int 0,.lit (.slice (some ⟨gv,0,none⟩) 1 1)] [.buf gv 88 2 [x] 1] (OwnK 88 2 [x]):=by
 refine zc func184 ntmps184 λ_ hs=>?_;repeat' first|refine Wz ?_|intro
 refine LH 0 0 ?_;repeat' first|refine Wz ?_|intro
 refine yH 24 ?_;refine VI (λg' c' hc'=>?_);repeat' first|refine Wz ?_|intro
 exact j4 [.buf g' 88 2 [x] c'] (.inr ⟨g',c',rfl,rfl,hc'⟩) sm
theorem a6X {g gv n c i:Nat}{xs:List AV}{x:AV}(hn:xs.length=n)(hc:n<=c)(hi:i<=n)(hb:n<=1073741824):Av.Spec prog GL 184 [.lit (.slice (some ⟨g,0,none⟩) n c),int i,.lit (.slice (some ⟨gv,0,none⟩) 1 1)] [.buf g 88 2 xs c,.buf gv 88 2 [x] 1] (OwnK 88 2 (xs.take i++x::xs.drop i)):=by
 subst hn;refine zc func184 ntmps184 λ_ hs=>?_;repeat' first|refine Wz ?_|intro
 refine LH i xs.length ?_;repeat' first|refine Wz ?_|intro
 refine G7 (λhin=>?_) (λhin=>?_)
 ·repeat' first|refine Wz ?_|intro
  refine yH 24 ?_;refine IG (λg' c' hc'=>?_);repeat' first|refine Wz ?_|intro
  have hin':i=xs.length:=om
  subst hin';refine j4 [.buf g' 88 2 (xs++[x]) c'] (.inr ⟨g',c',?_,?_,?_⟩) sm
  ·simp[L6]
  ·simp
  simpa using hc'
 repeat' first|refine Wz ?_|intro
 have hl:(xs.take i++x::xs.drop i).length=xs.length+1:=by simp;omega
 refine G7 (λhcap=>?_) (λhcap=>?_)
 ·obtain⟨q,hq⟩:∃ q,i+q=xs.length+1:=⟨xs.length+1-i,om⟩;repeat' first|refine Wz ?_|intro
  refine iR 0 i ?_;repeat' first|refine Wz ?_|intro
  refine a0P (i:=i) q (λg' c' hc'=>?_);repeat' first|refine Wz ?_|intro
  refine iR i (i+q) ?_;repeat' first|refine Wz ?_|intro
  refine LQ (j:=i) (j2:=0) ?_;repeat' first|refine Wz ?_|intro
  apply zd [];exact zg;intro _ _;refine iR (i+1) (i+q) ?_;exact j5 (A7 rfl rfl);repeat' first|refine Wz ?_|intro
  apply zd [];exact zg;intro _ _;refine iR i xs.length ?_;exact j5 (A7 rfl rfl);apply lX [0,1];exact rfl;exact rfl;kernel_rfl;intro _ _;refine LQ (j:=i+1) (j2:=i) ?_;exact j5 (A7 rfl rfl);exact rfl;exact rfl;repeat' first|refine Wz ?_|intro
  rw[Qz om hq om om];refine j4 [.buf g' 88 2 _ c'] (.inr ⟨g',c',?_,rfl,?_⟩) (List.singleton_sublist.2 List.mem_cons_self)
  ·rw[hl,<- hq];rfl
  omega
 repeat' first|refine Wz ?_|intro
 refine iR 0 (xs.length+1) ?_;repeat' first|refine Wz ?_|intro
 refine iR (i+1) (xs.length+1) ?_;apply EP (v:=d9 false) func222;kernel_rfl;exact rfl;kernel_rfl;kernel_rfl;exact rfl;exact rfl;exact rfl
 ·intro ok w cs hS hv;exact⟨_,a5b (b:=32) (tS:=30) 4 hS (λh=>b1e (pre:=[]) (mid:=[]) hS h.symm) (List.mem_cons_of_mem _ List.mem_cons_self) List.mem_cons_self om hv,RVl rfl⟩
 repeat' first|refine Wz ?_|intro
 apply zd [];exact zg;intro _ _;refine iR (i+1) (xs.length+1) ?_;exact j5 (A7 rfl rfl);repeat' first|refine Wz ?_|intro
 apply zd [];exact zg;intro _ _;refine iR i (xs.length+1) ?_;exact j5 (A7 rfl rfl);apply lX [0];exact rfl;exact rfl;kernel_rfl;intro _ _;refine LQ (j:=i+1) (j2:=i) ?_;exact j5 (A7 rfl rfl);exact rfl;exact rfl;repeat' first|refine Wz ?_|intro
 refine iR i (xs.length+1) ?_;repeat' first|refine Wz ?_|intro
 refine LQ (j:=i) (j2:=0) ?_;repeat' first|refine Wz ?_|intro
 rw[Ra om om om];refine j4 [.buf g 88 2 _ c] (.inr ⟨g,c,?_,rfl,?_⟩) sm
 ·rw[hl];rfl
 omega

theorem Vy {α:Type}{xs:List α}{i n j:Nat}{w z:List α}(hn:xs.length=n+1)(hi:i<=n)(hj:j=n)(hw:w=xs.drop (i+1))(_:z.length=1):(over (over xs i w) j z).take n=xs.take i++xs.drop (i+1):=by
 subst hj hw;obtain⟨a,b,rfl,rfl⟩:∃ a b,xs=a++b/\a.length=i:=⟨xs.take i,xs.drop i,(List.take_append_drop _ _).symm,by simp;omega⟩;cases b with
 | nil=>simp at hn;omega
 | cons y b=>
  simp only[List.length_append,List.length_cons] at hn;have e0:(a++y::b).drop (a.length+1)=b:=by
   rw[show a++y::b=(a++[y])++b by simp,show a.length+1=(a++[y]).length by simp,List.drop_left]
  rw[e0,List.take_left];have e1:((over (a++y::b) a.length b)).take j=a++b:=by
   unfold over;rw[List.take_left,List.take_left' (by simp;omega)]
  have e2:over (over (a++y::b) a.length b) j z=(a++b)++z++(over (a++y::b) a.length b).drop (j+z.length):=by
   rw[<- e1];rfl
  rw[e2,List.append_assoc,List.take_left' (by simp;omega)]
theorem a9R {g n c i:Nat}{xs:List AV}(hn:xs.length=n+1)(hc:n+1<=c)(hi:i<=n)(hb:n<=1073741824):Av.Spec prog GL 365 [.lit (.slice (some ⟨g,0,none⟩) (n+1) c),int i,int (i+1:Nat)] [.buf g 88 2 xs c] (OwnK 88 2 (xs.take i++xs.drop (i+1))):=by
 have hl:(xs.take i++xs.drop (i+1)).length=n:=by simp;omega
 have hend:∀ {xs':List AV},xs'=xs.take i++xs.drop (i+1)->OwnK 88 2 (xs.take i++xs.drop (i+1)) (.lit (.slice (some ⟨g,0,none⟩) n c)) [.buf g 88 2 xs' c]:=λh=>.inr ⟨g,c,by rw[hl],by rw[h],om⟩;refine zc func365 ntmps365 λ_ hs=>?_;repeat' first|refine Wz ?_|intro
 refine b1Y i (i+1) (n+1) ?_;repeat' first|refine Wz ?_|intro
 refine G7 (λh=>?_) (λ_=>?_)
 ·omega
 repeat' first|refine Wz ?_|intro
 apply zd [];exact zg;intro _ _;refine iR 0 i ?_;exact j5 (A7 rfl rfl);repeat' first|refine Wz ?_|intro
 by_cases hcc:c=i+1
 ·have hin:i=n:=om
  subst hin hcc;apply zd [];exact zg;intro _ _;refine LH (i+1) (i+1) ?_;rw[if_pos rfl];exact j5 (A7 rfl rfl);apply lX [0];exact rfl;exact rfl;kernel_rfl;intro _ _;refine a0Q (i:=i) (c:=i+1) (j2:=0) ?_;exact j5 (A7 rfl rfl);exact rfl;exact rfl;repeat' first|refine Wz ?_|intro
  refine iR i (i+1) ?_;refine a0F (j:=i) ?_;refine a0n i ?_;repeat' first|refine Wz ?_|intro
  refine j4 [.buf g 88 2 _ (i+1)] ?_ slr;simp only[L6];rw[show i+(i+1-(i+1))=i by omega];exact hend (Vy hn hi rfl (by rw[show i+1-(i+1)=0 by omega,List.drop_of_length_le (i:=i+1) om,List.take_zero]) sm)
 apply zd [];exact zg;intro _ _;refine iR (i+1) (n+1) ?_;exact j5 (A7 rfl rfl);apply lX [0];exact rfl;exact rfl;kernel_rfl;intro _ _;refine a0Q (i:=i) (c:=c) (j2:=i+1) ?_;exact j5 (A7 rfl rfl);exact rfl;exact rfl;repeat' first|refine Wz ?_|intro
 refine iR n (n+1) ?_;refine a0F (j:=n) ?_;refine a0n n ?_;repeat' first|refine Wz ?_|intro
 refine j4 [.buf g 88 2 _ c] ?_ slr;simp only[L6];rw[show i+(n+1-(i+1))=n by omega];exact hend (Vy hn hi rfl (List.take_of_length_le (by simp;omega)) sm)
theorem a9S {g c i:Nat}{xs:List AV}(hi:i<xs.length)(hc:xs.length<=c)(hb:xs.length<=1073741824):Av.Spec prog GL 365 [.lit (.slice (some ⟨g,0,none⟩) xs.length c),int i,int (i+1:Int)] [.buf g 88 2 xs c] (OwnK 88 2 (xs.take i++xs.drop (i+1))):=by
 obtain⟨n,hn⟩:∃ n,xs.length=n+1:=⟨xs.length-1,om⟩;rw[hn] at hc hi hb ⊢;exact a9R hn hc om om

def vS (a b:Bs):Int:=Extern.BytealgCompare.cmp ⟨a.toArray⟩ ⟨b.toArray⟩
theorem a3d (a b:Bs)(w:World):(Extern.BytealgCompare.compare #[sv a,sv b]).run prog w=.ok (.int .i64 (vS a b)) w:=by
 rfl
instance c2J {a b:Bs}:Ans prog GL 179 [str a,str b] True (int (vS a b)):=⟨λ_=>by
 refine zc func179 ntmps179 λ_ hs=>?_;repeat' first|refine Wz ?_|intro
 apply EP (v:=int (vS a b)) func219;kernel_rfl;exact rfl;kernel_rfl;kernel_rfl;exact rfl;exact rfl;exact rfl
 ·rintro ok w cs _ ⟨u1,us,rfl,h1,u2,us2,rfl,h2,rfl⟩;rw[RV0.lit h1,RV0.lit h2];exact⟨_,a3d a b _,RVl rfl⟩
 exact jY⟩
instance c2x {a b:Bs}:Ans prog GL 120 [str a,str b] True (int (vS a b)):=⟨λ_=>by
 refine zc func120 ntmps120 λ_ hs=>?_;exact jY⟩
instance c2j {x y k:Bs}:Ans prog GL 119 [.agg 2 [str x,str y],str k] True (int (vS x k)):=⟨λ_=>by
 refine zc func119 ntmps119 λ_ hs=>?_;exact jY⟩
def yF (l:List Ent)(k:Bs):Nat->Nat->Nat->Nat
 | 0,i,_=>i
 | f+1,i,j=>if i<j then
   (let h:=(i+j) / 2
   if vS ((l.getD h ⟨[],[]⟩).key) k<0 then yF l k f (h+1) j else yF l k f i h)
  else i
def G5 (l:List Ent)(k:Bs):Nat:=yF l k l.length 0 l.length
def K8 (l:List Ent)(k:Bs):Bool:=decide (G5 l k<l.length)&&decide (vS ((l.getD (G5 l k) ⟨[],[]⟩).key) k=0)
instance c3f {l:List Ent}{k:Bs}{xs:List AV}{id:Option Value}[hx:Ents xs l]:Ans prog GL 118 [.sl 2 xs id,str k,F3 119 []] (l.length<4611686018427387904) (.tup [int (G5 l k),d9 (K8 l k)]):=⟨λhmx=>by
 have h:=hx.out;subst h;refine zc func118 ntmps118 λ_ hs=>?_;repeat' first|refine Wz ?_|intro
 refine H7 (α:=Nat × Nat × Nat) (λq=>[(0,.sl 2 (l.map J4) id),(1,str k),(2,F3 119 []),(8,int (l.map J4).length),(9,int q.1),(10,int q.2.1)]) (λ_=>[])
  (λq=>q.1<=q.2.1/\q.2.1<=l.length/\q.2.1-q.1<=q.2.2/\yF l k q.2.2 q.1 q.2.1=G5 l k) (λq=>q.2.2) (0,(l.map J4).length,l.length) za slr ⟨Nat.zero_le _,sm,sm,by simp[G5]⟩ ?_
 rintro⟨i,j,f⟩ ⟨g1,g2,g3,g4⟩;dsimp only at g1 g2 g3 g4 ⊢;repeat' first|refine Wz ?_|intro
 refine G7 (λhlt=>?_) (λhlt=>?_)
 ·repeat' first|refine Wz ?_|intro
  have hw:IntKind.i64.wrap (((i:Int)+(j:Int)) / ((2 ^ 1:Nat):Int))=(((i+j) / 2:Nat):Int):=by rw[IntKind.wrap_i64];omega
  rw[hw];obtain⟨f,rfl⟩:∃ f',f=f'+1:=⟨f-1,om⟩;rw[yF,if_pos om] at g4;generalize hh:(i+j) / 2=h at *;have hlt':h<l.length:=by omega
  have hgd:l.getD h ⟨[],[]⟩=l[h]:=by simp[List.getD,hlt']
  simp only[hgd] at g4;refine sJ h hlt' ?_;repeat' first|refine Wz ?_|intro
  refine G7 (λhc=>?_) (λhc=>?_)
  ·rw[if_pos hc] at g4;repeat' first|refine Wz ?_|intro
   refine y7 (h+1,j,f) za slr ⟨by simp only;omega,g2,by simp only;omega,g4⟩ (by simp only;omega)
  rw[if_neg hc] at g4;repeat' first|refine Wz ?_|intro
  refine y7 (i,h,f) za slr ⟨by simp only;omega,by simp only;omega,by simp only;omega,g4⟩ (by simp only;omega)
 have g5:G5 l k=i:=by
  rw[<- g4];cases f with
  | zero=>rfl
  | succ f=>rw[yF,if_neg om]
 repeat' first|refine Wz ?_|intro
 refine fE (λhn=>?_) (λhn=>?_)
 ·have hlt':i<l.length:=by simpa using hn
  repeat' first|refine Wz ?_|intro
  refine sJ i hlt' ?_;repeat' first|refine Wz ?_|intro
  refine x9 ?_;have hgd:l.getD i ⟨[],[]⟩=l[i]:=by simp[List.getD,hlt']
  simp[K8,g5,hlt',L6]
 have hlt':¬ i<l.length:=by simpa using hn
 repeat' first|refine Wz ?_|intro
 refine x9 ?_;simp[K8,g5,hlt',L6]⟩
instance c2k {l:List Ent}{k:Bs}{xs:List AV}{id:Option Value}[hx:Ents xs l]:Ans prog GL 87 [.agg 1 [.sl 2 xs id],str k] (l.length<4611686018427387904) (.tup [int (G5 l k),d9 (K8 l k)]):=⟨λhl=>by
 have h:=hx.out;subst h;refine zc func87 ntmps87 λ_ hs=>?_;exact jY⟩
end Go.Proofs.Z
