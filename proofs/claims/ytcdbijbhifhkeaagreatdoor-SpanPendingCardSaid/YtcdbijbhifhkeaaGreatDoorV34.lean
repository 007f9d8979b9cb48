/- . -/
import Derived.Test.YtcdbijbhifhkeaaGreatDoorV33
set_option maxHeartbeats 64000000
namespace Go.Proofs.Z
open Go Go.RowKit Tw Av Go.Proofs.Tryz
section
variable {h t:Int}{s:Bs}
attribute [local irreducible] u7 J9 Y0 I9 I1 M5
instance c3k {d:List Ent}{x:TxX}{r:Rep}{xs:List AV}[hx:Ents xs d]:Ans prog GL 194 [.agg 1 [.sl 2 xs none],int h,D8 x,K3 r] (DOk d) (O0 (jF d h x r)):=⟨λhd=>by
 have h':=hx.out;subst h';refine zc func194 ntmps194 λ_ hs=>?_;unfold jF;by_cases h1:x.k=13
 ·rw[if_pos h1,if_neg (show ¬ x.k=14 by omega),if_neg (show ¬ x.k=15 by omega)];exact o8
 by_cases h2:x.k=14
 ·rw[if_neg h1,if_pos h2];exact o8
 by_cases h3:x.k=15
 ·rw[if_neg h1,if_neg h2,if_pos h3];exact o8
 rw[if_neg h1,if_neg h2,if_neg h3];exact o8⟩
theorem Nq {α:Type}{a b c:α}{l:List α}:(a::b::c::l).Perm (c::a::b::l):=List.perm_middle (l₁:=[a,b])
theorem Jn {go:Nat}{acc:List Rep}{v:Value}{r:Rep}(hn:acc.length<=1000000000):Av.Spec prog GL 191 [K3 r,ptr go]
  [.tail 115 3 v,.var go 54 (.sl 3 (acc.map K3) (some v))]
  λu m=>∃ v',u=.tup []/\m=[.tail 115 3 v',.var go 54 (.sl 3 ((acc++[r]).map K3) (some v'))]:=by
 have hm:(acc.map K3).length=acc.length:=llm _;refine zc func191 ntmps191 λ_ hs=>?_;repeat' first|refine O ?_|intro
 refine aP (λv'=>?_);repeat' first|refine O ?_|intro
 refine iV [.tail 115 3 v',.var go 54 (.sl 3 (acc.map K3++[K3 r]) (some v'))] ⟨v',rfl,by rw[List.map_append];rfl⟩ ?_;exact A8
theorem a3q {q:Run3}{l:List Bs}{i:Nat}(hi:i<l.length):Z7 h t q (l.take (i+1))=bP h t (Z7 h t q (l.take i)) l[i]:=by
 rw[List.take_succ_eq_append_getElem hi,a3r];rfl
theorem a3l {q:Run3}(hE:Y0 (I9 s)≠0):bP h t q s=(q.1,q.2.1++[yS 10],q.2.2):=by rw[bP,if_neg hE]
theorem a3k {q:Run3}(hE:Y0 (I9 s)=0)(h0:(u7 q.1 (J9 (I9 s)) h t).2.e=0)(h1:13<=(J9 (I9 s)).k):bP h t q s=((u7 q.1 (J9 (I9 s)) h t).1,q.2.1++[(u7 q.1 (J9 (I9 s)) h t).2],q.2.2++[jF (u7 q.1 (J9 (I9 s)) h t).1 h (J9 (I9 s)) (u7 q.1 (J9 (I9 s)) h t).2]):=by rw[bP,if_pos hE,xN,if_pos ⟨h0,h1⟩]
theorem Jj {q:Run3}(hE:Y0 (I9 s)=0)(h0:¬ ((u7 q.1 (J9 (I9 s)) h t).2.e=0/\13<=(J9 (I9 s)).k)):bP h t q s=((u7 q.1 (J9 (I9 s)) h t).1,q.2.1++[(u7 q.1 (J9 (I9 s)) h t).2],q.2.2):=by rw[bP,if_pos hE,xN,if_neg h0]
set_option maxRecDepth 100000 in
theorem a8W {K:Int->Prop}(hDo:∀ {d:List Ent} {h t:Int} {x:TxX},Ans prog GL 193 [.agg 1 [.sl 2 (d.map J4) none],D8 x,int h,int t] (DOk d/\TxB x/\K x.k) (.tup [dA (u7 d x h t).1,K3 (u7 d x h t).2]))
  {d:List Ent} {l:List Bs} {h t:Int} {xs ys:List AV} {id:Option Value} [hx:Ents xs d] [hy:Strs ys l]:Ans prog GL 141 [.agg 1 [.sl 2 xs none],.agg 3 [int h,int t,.sl 1 ys id]] (DOk d/\l.length<=1000000/\∀ s∈l,s.length<=1000000000/\(Y0 (I9 s)=0->K (J9 (I9 s)).k))
   (.tup [dA (M4 d ⟨h,t,l⟩).1,.sl 3 ((M4 d ⟨h,t,l⟩).2.1.map K3) none,.sl 15 ((M4 d ⟨h,t,l⟩).2.2.map O0) none]):=⟨λhp=>by
 obtain⟨hd,hl,hk⟩:=hp;have h':=hx.out;subst h';have h':=hy.out;subst h';have hm:(l.map str).length=l.length:=llm _;refine zc func141 ntmps141 λ_ hs=>?_;repeat' first|refine O ?_|intro
 rename_i g2 g3 g4 g7;refine Z0 (vs:=[.pointer (some ⟨g7,0,none⟩)]) ?_;repeat' first|refine O ?_|intro
 refine jK (g:=g7) (v':=.sl 3 [] (some (.slice none 0 0))) ImpC.nilT ?_;refine eO (λok w h=>h.full 115 3 none 0) ?_;refine sP 8 (Imp.nil (k:=15)) ?_;refine eO (λok w h=>h.full 53 15 none 0) ?_;refine eO (λok w hh=>hh.perm (m':=[.tail 115 3 (.slice none 0 0),.var g7 54 (.sl 3 [] (some (.slice none 0 0))),.tail 53 15 (.slice none 0 0),.var g4 32 (.agg 1 [.lit (.slice none 0 0)]),.var g3 173 (.agg 3 [int h,int t,.sl 1 (l.map str) id]),.var g2 32 (dA d)]) Nq) ?_
 haveI hDoI:∀ {d:List Ent} {h t:Int} {x:TxX},Ans prog GL 193 [.agg 1 [.sl 2 (d.map J4) none],D8 x,int h,int t] (DOk d/\TxB x/\K x.k) (.tup [dA (u7 d x h t).1,K3 (u7 d x h t).2]):=hDo
 refine H7 (α:=Nat × Value × Value) (λz=>[(2,ptr g2),(3,ptr g3),(4,ptr g4),(5,.lit (.slice none 0 0)),(6,.lit (.slice none 0 0)),(7,ptr g7),(8,.sl 15 ((Z7 h t (d,[],[]) (l.take z.1)).2.2.map O0) (some z.2.2)),(9,F3 191 [.pointer (some ⟨g7,0,none⟩)]),(17,.sl 1 (l.map str) id),(18,int l.length),(19,int z.1)])
  (λz=>[.tail 115 3 z.2.1,.var g7 54 (.sl 3 ((Z7 h t (d,[],[]) (l.take z.1)).2.1.map K3) (some z.2.1)),.tail 53 15 z.2.2,.var g4 32 (.agg 1 [.lit (.slice none 0 0)]),.var g3 173 (.agg 3 [int h,int t,.sl 1 (l.map str) id]),.var g2 32 (dA (Z7 h t (d,[],[]) (l.take z.1)).1)])
  (λz=>z.1<=l.length) (λz=>l.length-z.1) (0,.slice none 0 0,.slice none 0 0) ⟨rfl,rfl,rfl,rfl,rfl,rfl,rfl,rfl,rfl,by rw[<- hm];rfl,rfl,trivial⟩ ?_ (Nat.zero_le _) ?_
 ·exact List.Sublist.refl _
 rintro⟨i,v7,v8⟩ hi;dsimp only at hi ⊢;repeat' first|refine O ?_|intro
 refine G7 (λh1=>?_) (λh1=>?_)
 ·have hil:i<l.length:=om
  have hq:=a3q (h:=h) (t:=t) (q:=(d,[],[])) hil;have hdq:DOk (Z7 h t (d,[],[]) (l.take i)).1:=XA hd;have hlq:=yR (h:=h) (t:=t) (l:=l.take i) (q:=(d,[],[]));have hls:l[i].length<=1000000000:=(hk _ (List.getElem_mem hil)).1;have hkk:=(hk _ (List.getElem_mem hil)).2;generalize Z7 h t (d,[],[]) (l.take i)=q at *;have hl1:q.2.1.length<=1000000:=by
   have:=hlq.1;simp only[List.length_take,List.length_nil] at this;omega
  have hl2:q.2.2.length<=1000000:=by
   have:=hlq.2;simp only[List.length_take,List.length_nil] at this;omega
  have hm2:(q.2.2.map O0).length=q.2.2.length:=llm _;repeat' first|refine O ?_|intro
  by_cases hE:Y0 (I9 l[i])=0
  rotate_left
  ·have hq':=hq.trans (a3l hE);repeat' first|refine O ?_|intro
   refine gX (args:=[K3 (yS 10)]) (cs:=[.pointer (some ⟨g7,0,none⟩)]) [.tail 115 3 v7,.var g7 54 (.sl 3 (q.2.1.map K3) (some v7))] _ (by rw[hs];exact Jn om) (λu m1 hh=>?_) Nq.symm;obtain⟨v',rfl,rfl⟩:=hh;repeat' first|refine O ?_|intro
   refine y7 (i+1,v',v8) ?_ ?_ hil (by dsimp only;omega)
   ·dsimp only;rw[hq'];exact za
   dsimp only;rw[hq'];exact A8
  rw[hE];have hx3:DOk q.1/\TxB (J9 (I9 l[i]))/\K (J9 (I9 l[i])).k:=⟨hdq,a3v _,hkk hE⟩;have hdo:DOk (u7 q.1 (J9 (I9 l[i])) h t).1:=Uy hdq;repeat' first|refine O ?_|intro
  refine gX (args:=[K3 (u7 q.1 (J9 (I9 l[i])) h t).2]) (cs:=[.pointer (some ⟨g7,0,none⟩)]) [.tail 115 3 v7,.var g7 54 (.sl 3 (q.2.1.map K3) (some v7))] _ (by rw[hs];exact Jn om) (λu m1 hh=>?_) (List.perm_append_comm_assoc [_,_] [_,_] _);obtain⟨v',rfl,rfl⟩:=hh;by_cases h0:(u7 q.1 (J9 (I9 l[i])) h t).2.e=0
  ·by_cases h1:13<=(J9 (I9 l[i])).k
   ·have hq':=hq.trans (a3k hE h0 h1);repeat' first|refine O ?_|intro
    refine aP (λv''=>?_);repeat' first|refine O ?_|intro
    refine y7 (i+1,v',v'') ?_ ?_ hil (by dsimp only;omega)
    ·dsimp only;rw[hq',List.map_append];exact za
    dsimp only;rw[hq'];exact A8
   have hq':=hq.trans (Jj hE (λhh=>h1 hh.2));repeat' first|refine O ?_|intro
   refine y7 (i+1,v',v8) ?_ ?_ hil (by dsimp only;omega)
   ·dsimp only;rw[hq'];exact za
   dsimp only;rw[hq'];exact A8
  have hq':=hq.trans (Jj hE (λhh=>h0 hh.1));repeat' first|refine O ?_|intro
  refine y7 (i+1,v',v8) ?_ ?_ hil (by dsimp only;omega)
  ·dsimp only;rw[hq'];exact za
  dsimp only;rw[hq'];exact A8
 have hi':i=l.length:=om
 subst hi';rw[List.take_length];repeat' first|refine O ?_|intro
 refine P8 ?_;show Imp (.tup [dA (Z7 h t (d,[],[]) l).1,.sl 3 ((Z7 h t (d,[],[]) l).2.1.map K3) (some v7),.sl 15 ((Z7 h t (d,[],[]) l).2.2.map O0) (some v8)]) (.tup [dA (Z7 h t (d,[],[]) l).1,.sl 3 ((Z7 h t (d,[],[]) l).2.1.map K3) none,.sl 15 ((Z7 h t (d,[],[]) l).2.2.map O0) none]);exact ImpR.imp⟩
end

structure TxW (x:TxX):Prop where
 k:x.k<=9223372036854775807
 e:x.e<=9223372036854775807
 hh:x.h.h<=9223372036854775807
 ht:x.h.t<=9223372036854775807
 xq:x.x.q<=9223372036854775807
 xh:x.x.h<=9223372036854775807
 xt:x.x.t<=9223372036854775807
 t:x.t<=9223372036854775807
 f:x.f.p.length<=1000000/\x.f.a<=9223372036854775807/\x.f.m<=9223372036854775807
 g:GapW x.g
set_option maxRecDepth 100000 in
instance b9m {x:TxX}:Ans prog GL 114 [D8 x] (TxW x) (str (j6 x)):=⟨λhp=>by
 obtain⟨h1,h2,h3,h4,h5,h6,h7,h8,h9,h10⟩:=hp;refine zc func114 ntmps114 λ_ hs=>?_;repeat' (first|refine iP ?_|refine M8 ?_|refine Q4 ?_|refine L8 ?_|intro _)
 refine GR hs ?_
 iterate 4 refine rG ?_
 apply YW [51,93];kernel_rfl;kernel_rfl;kernel_rfl;exact⟨⟨_,inferInstance⟩,⟨_,inferInstance⟩,trivial⟩;intro g3;apply YW [51,93];kernel_rfl;kernel_rfl;kernel_rfl;exact⟨⟨_,inferInstance⟩,⟨_,inferInstance⟩,trivial⟩;intro g4;exact bH⟩
end Go.Proofs.Z

namespace Go.Proofs.Z
open Go Go.RowKit Tw Av
section
variable {P:Program} {N:Nat} {ops:Array Oper} {Q:Exit->Act->World->Prop} {rest:List Oper} {s:Av.Base} {e:Av.Env} {m:List Av.Piece} {d:Nat} {ty:TypeId} {pos:String} {af:Array Edge}
theorem VG {T yT:TypeId}{x y:Operand}{n b:Int}(h:AL P N ops Q s rest ((d,int (n%8))::e) m)(hx:Av.ev e x=some (int n):=by exact rfl)(hy:Av.ev e y=some (int b):=by exact rfl)(hb:b=7:=by exact rfl)(hd:Nat.blt d N=true:=by exact rfl):AL P N ops Q s (⟨some d,.binOp .and T x y yT,ty,pos,af,none⟩::rest) e m:=Ep 3 h hx hy hb dc hd
end
theorem a1l:G6 (H9 5)=.agg 4 [.lit (.int .u64 5),.lit (.int .u64 0),.lit (.int .u64 0),.lit (.int .u64 0)]:=by kernel_rfl
attribute [local irreducible] j6 Hy
end Go.Proofs.Z

namespace Go.Proofs.Z
open Go Go.RowKit Tw Av Go.Proofs.Tryz
instance c0x {x:Bs}:Ans prog GL 83 [str x] True (.tup [hA (Y2 x),d9 (decide (x.length=32))]):=⟨λ_=>by
 refine zc func83 ntmps83 λ_ hs=>?_;repeat' first|refine Yz ?_|intro
 by_cases hx:x.length=32
 rotate_left
 ·rw[dZ hx];repeat' first|refine Yz ?_|intro
  refine x9 ?_;unfold Y2;rw[dif_neg hx];rfl
 rw[dT hx];repeat' first|refine Yz ?_|intro
 rename_i g1 g2;refine H7 (α:=Nat) (λi=>[(0,str x),(2,ptr g1),(3,.lit (.bool false)),(4,ptr g2),(5,int i)]) (λi=>[.var g2 91 (.agg 32 ((jA x i).map I5)),.var g1 91 (hA G8)]) (λi=>i<=32) (λi=>32-i) 0 za ?_ (Nat.zero_le _) ?_
 focus
  exact A8
 intro i hi;repeat' first|refine Yz ?_|intro
 refine G7 (λhlt=>?_) (λhlt=>?_)
 ·have hil:i<32:=om
  have hix:i<x.length:=om
  repeat' first|refine Yz ?_|intro
  refine EO i ?_ (List.getElem?_eq_getElem hix);repeat' first|refine Yz ?_|intro
  refine aX i ?_;refine vJ (j:=i) (ps:=(jA x i).map I5) (by simp only[List.length_map];rw[TI hx hi];exact hil) ?_;repeat' first|refine Yz ?_|intro
  rw[show ((jA x i).map I5).set i (I5 x[i])=((jA x i).set i x[i]).map I5 by rw[List.map_set],Ac hx hil];exact y7 (i+1) za slr hil om
 obtain rfl:i=32:=by omega
 have hA1:AV.agg 32 ((jA x 32).map I5)=hA (Y2 x):=by rw[Ad hx,hA,TU hx]
 rw[hA1];exact bH⟩
section
variable {σ:RS}{m:Int}
instance c0g {c:Int}:Ans prog GL 79 [str (gT c m σ)] True (.tup [G6 (wV (gT c m σ)),int (if (gT c m σ).length=32 then 0 else 10)]):=⟨λ_=>a8q.spec (KL _ _ _)⟩
instance c0l {c:Int}:Ans prog GL 84 [str (gT c m σ)] True (.tup [bK (kI (gT c m σ)),int (iD (gT c m σ))]):=⟨λ_=>a8s.spec (KL _ _ _)⟩
instance c0j {c:Int}:Ans prog GL 85 [str (gT c m σ)] True (.tup [jS (qC (gT c m σ)),int (oF (gT c m σ))]):=⟨λ_=>a8r.spec (KL _ _ _)⟩
instance rS1 {g:Nat}:AnsM prog GL 81 g [.lit (.int .u8 75),int 16] 148 (C9 σ) True (int (gI 75 16 σ)) (C9 (qV σ)):=⟨λ_=>(CQ (c:=75) (most:=16)).spec dc⟩
instance rS2 {g:Nat}:AnsM prog GL 82 g [.lit (.int .u8 73),int 4000] 148 (C9 (qV σ)) True (str (gT 73 4000 (qV σ))) (C9 (tN σ)):=⟨λ_=>(mW (c:=73) (most:=4000)).spec True.intro⟩
instance rS3 {g:Nat}:AnsM prog GL 82 g [.lit (.int .u8 79),int 4000] 148 (C9 (tN σ)) True (str (gT 79 4000 (tN σ))) (C9 (tH σ)):=⟨λ_=>(mW (c:=79) (most:=4000)).spec True.intro⟩
instance rS4 {g:Nat}:AnsM prog GL 82 g [.lit (.int .u8 81),int 4000] 148 (C9 (tH σ)) True (str (gT 81 4000 (tH σ))) (C9 (tF σ)):=⟨λ_=>(mW (c:=81) (most:=4000)).spec True.intro⟩
instance rS5 {g:Nat}:AnsM prog GL 82 g [.lit (.int .u8 82),int 4000] 148 (C9 (tF σ)) True (str (gT 82 4000 (tF σ))) (C9 (tC σ)):=⟨λ_=>(mW (c:=82) (most:=4000)).spec True.intro⟩
instance rS6 {g:Nat}:AnsM prog GL 82 g [.lit (.int .u8 89),int 4000] 148 (C9 (tC σ)) True (str (gT 89 4000 (tC σ))) (C9 (sZ σ)):=⟨λ_=>(mW (c:=89) (most:=4000)).spec True.intro⟩
instance rS7 {g:Nat}:AnsM prog GL 81 g [.lit (.int .u8 69),int 1099511627776] 148 (C9 (sZ σ)) True (int (gI 69 1099511627776 (sZ σ))) (C9 (sW σ)):=⟨λ_=>(CQ (c:=69) (most:=1099511627776)).spec dc⟩
instance rS8 {g:Nat}:AnsM prog GL 82 g [.lit (.int .u8 99),int 4000] 148 (C9 (sW σ)) True (str (gT 99 4000 (sW σ))) (C9 (sV σ)):=⟨λ_=>(mW (c:=99) (most:=4000)).spec True.intro⟩
instance rS9 {g:Nat}:AnsM prog GL 81 g [.lit (.int .u8 104),int 1099511627776] 148 (C9 (sV σ)) True (int (gI 104 1099511627776 (sV σ))) (C9 (sU σ)):=⟨λ_=>(CQ (c:=104) (most:=1099511627776)).spec dc⟩
instance b8F {g:Nat}:AnsM prog GL 81 g [.lit (.int .u8 116),int 1099511627776] 148 (C9 (sU σ)) True (int (gI 116 1099511627776 (sU σ))) (C9 (lJ σ)):=⟨λ_=>(CQ (c:=116) (most:=1099511627776)).spec dc⟩
instance b8E {g:Nat}:AnsM prog GL 82 g [.lit (.int .u8 114),int 32] 148 (C9 (lJ σ)) True (str (gT 114 32 (lJ σ))) (C9 (lI σ)):=⟨λ_=>(mW (c:=114) (most:=32)).spec True.intro⟩
instance b8D {g:Nat}:AnsM prog GL 82 g [.lit (.int .u8 77),int 32] 148 (C9 (lI σ)) True (str (gT 77 32 (lI σ))) (C9 (tZ σ)):=⟨λ_=>(mW (c:=77) (most:=32)).spec True.intro⟩
instance b8C {g:Nat}:AnsM prog GL 81 g [.lit (.int .u8 113),int 1099511627776] 148 (C9 (tZ σ)) True (int (gI 113 1099511627776 (tZ σ))) (C9 (tY σ)):=⟨λ_=>(CQ (c:=113) (most:=1099511627776)).spec dc⟩
instance b8B {g:Nat}:AnsM prog GL 82 g [.lit (.int .u8 115),int 4000] 148 (C9 (tY σ)) True (str (gT 115 4000 (tY σ))) (C9 (tX σ)):=⟨λ_=>(mW (c:=115) (most:=4000)).spec True.intro⟩
instance b8A {g:Nat}:AnsM prog GL 82 g [.lit (.int .u8 107),int 4000] 148 (C9 (tX σ)) True (str (gT 107 4000 (tX σ))) (C9 (tV σ)):=⟨λ_=>(mW (c:=107) (most:=4000)).spec True.intro⟩
instance b8z {g:Nat}:AnsM prog GL 82 g [.lit (.int .u8 100),int 4000] 148 (C9 (tV σ)) True (str (gT 100 4000 (tV σ))) (C9 (lH σ)):=⟨λ_=>(mW (c:=100) (most:=4000)).spec True.intro⟩
instance b8y {g:Nat}:AnsM prog GL 82 g [.lit (.int .u8 97),int 32] 148 (C9 (lH σ)) True (str (gT 97 32 (lH σ))) (C9 (tQ σ)):=⟨λ_=>(mW (c:=97) (most:=32)).spec True.intro⟩
instance b8x {g:Nat}:AnsM prog GL 82 g [.lit (.int .u8 102),int 4000] 148 (C9 (tQ σ)) True (str (gT 102 4000 (tQ σ))) (C9 (tO σ)):=⟨λ_=>(mW (c:=102) (most:=4000)).spec True.intro⟩
instance b8w {g:Nat}:AnsM prog GL 82 g [.lit (.int .u8 103),int 4000] 148 (C9 (tO σ)) True (str (gT 103 4000 (tO σ))) (C9 (pJ σ)):=⟨λ_=>(mW (c:=103) (most:=4000)).spec True.intro⟩
instance b8u {g:Nat}:AnsM prog GL 81 g [.lit (.int .u8 117),int 1099511627776] 148 (C9 (pJ σ)) True (int (gI 117 1099511627776 (pJ σ))) (C9 (tL σ)):=⟨λ_=>(CQ (c:=117) (most:=1099511627776)).spec dc⟩
instance b8t {g:Nat}:AnsM prog GL 81 g [.lit (.int .u8 118),int 1099511627776] 148 (C9 (tL σ)) True (int (gI 118 1099511627776 (tL σ))) (C9 (tK σ)):=⟨λ_=>(CQ (c:=118) (most:=1099511627776)).spec dc⟩
instance b8s {g:Nat}:AnsM prog GL 82 g [.lit (.int .u8 65),int 4000] 148 (C9 (tK σ)) True (str (gT 65 4000 (tK σ))) (C9 (tJ σ)):=⟨λ_=>(mW (c:=65) (most:=4000)).spec True.intro⟩
instance b8r {g:Nat}:AnsM prog GL 81 g [.lit (.int .u8 84),int 1099511627776] 148 (C9 (tJ σ)) True (int (gI 84 1099511627776 (tJ σ))) (C9 (lG σ)):=⟨λ_=>(CQ (c:=84) (most:=1099511627776)).spec dc⟩
instance b8q {g:Nat}:AnsM prog GL 82 g [.lit (.int .u8 70),int 4000] 148 (C9 (lG σ)) True (str (gT 70 4000 (lG σ))) (C9 (lF σ)):=⟨λ_=>(mW (c:=70) (most:=4000)).spec True.intro⟩
instance b8p {g:Nat}:AnsM prog GL 82 g [.lit (.int .u8 71),int 4000] 148 (C9 (lF σ)) True (str (gT 71 4000 (lF σ))) (C9 (qU σ)):=⟨λ_=>(mW (c:=71) (most:=4000)).spec True.intro⟩
instance b8G {g:Nat}{s:Bs}:AnsM prog GL 81 g [.lit (.int .u8 75),int 16] 148 (H5 s false) (s.length<=1000000000) (int (gI 75 16 (I9 s))) (C9 (qV (I9 s))):=⟨λhl=>by
 have h:=(rS1 (g:=g) (σ:=I9 s)).spec True.intro;rw[<- Fz hl] at h;exact h⟩
theorem vM (h:gZ (qU σ)≠0\/(gT 114 32 (lJ σ)).length≠32\/(gT 77 32 (lI σ)).length≠32\/(gT 97 32 (lH σ)).length≠32\/iD (gT 70 4000 (lG σ))≠0\/oF (gT 71 4000 (lF σ))≠0):J9 σ=X0/\Y0 σ=10:=by
 have hk:vN σ=false:=by
  cases e:vN σ
  ·rfl
  exfalso
  unfold vN LY MB ME LZ MC at e;simp only[Bool.and_eq_true,decide_eq_true_eq] at e;obtain⟨e1,e2,e3,e4,e5,e6⟩:=e;rcases h with h|h|h|h|h|h
  ·exact h e6
  ·exact h e1
  ·exact h e2
  ·exact h e3
  ·exact h e4
  exact h e5
 unfold J9 Y0;rw[hk];exact⟨rfl,rfl⟩
theorem Gv (h6:gZ (qU σ)=0)(h1:(gT 114 32 (lJ σ)).length=32)(h2:(gT 77 32 (lI σ)).length=32)(h3:(gT 97 32 (lH σ)).length=32)(h4:iD (gT 70 4000 (lG σ))=0)(h5:oF (gT 71 4000 (lF σ))=0):J9 σ=IX σ/\Y0 σ=0:=by
 have hk:vN σ=true:=by
  unfold vN LY MB ME LZ MC;rw[dT h1,dT h2,dT h3,dT h4,dT h5,dT h6];rfl
 unfold J9 Y0;rw[hk];exact⟨rfl,rfl⟩
end
attribute [local irreducible] wV gT gI gZ sT sI Y2 kI qC iD oF C9 qV tN tH tF tC sZ sW sV sU lJ lI tZ tY tX tV lH tQ tO pJ tL tK tJ lG lF qU
set_option maxRecDepth 100000 in
instance c0w {s:Bs}:Ans prog GL 44 [str s] (s.length<=1000000000) (.tup [D8 (J9 (I9 s)),int (Y0 (I9 s))]):=⟨λhl=>by
 refine zc func44 ntmps44 λ_ hs=>?_
 iterate 24 ((iterate 20 (try first|refine Xa ?_|refine p9 (λ_=>?_)|intro _));try simp only[List.set])
 generalize I9 s=σ;by_cases h6:gZ (qU σ)=0
 rotate_left
 ·rw[(vM (.inl h6)).1,(vM (.inl h6)).2];repeat' (first|refine Xa ?_|refine p9 (λ_=>?_)|intro _|simp only[List.set]|fail)
  (refine Y1 (.tup [D8 X0,int 10]) [] ?_ ⟨rfl,rfl⟩ (List.nil_sublist _);exact CB)
 by_cases h1:(gT 114 32 (lJ σ)).length=32
 rotate_left
 ·rw[(vM (.inr (.inl h1))).1,(vM (.inr (.inl h1))).2];repeat' (first|refine Xa ?_|refine p9 (λ_=>?_)|intro _|simp only[List.set]|fail)
  (refine Y1 (.tup [D8 X0,int 10]) [] ?_ ⟨rfl,rfl⟩ (List.nil_sublist _);exact CB)
 by_cases h2:(gT 77 32 (lI σ)).length=32
 rotate_left
 ·rw[(vM (.inr (.inr (.inl h2)))).1,(vM (.inr (.inr (.inl h2)))).2];repeat' (first|refine Xa ?_|refine p9 (λ_=>?_)|intro _|simp only[List.set]|fail)
  (refine Y1 (.tup [D8 X0,int 10]) [] ?_ ⟨rfl,rfl⟩ (List.nil_sublist _);exact CB)
 by_cases h3:(gT 97 32 (lH σ)).length=32
 rotate_left
 ·rw[(vM (.inr (.inr (.inr (.inl h3))))).1,(vM (.inr (.inr (.inr (.inl h3))))).2];repeat' (first|refine Xa ?_|refine p9 (λ_=>?_)|intro _|simp only[List.set]|fail)
  (refine Y1 (.tup [D8 X0,int 10]) [] ?_ ⟨rfl,rfl⟩ (List.nil_sublist _);exact CB)
 by_cases h4:iD (gT 70 4000 (lG σ))=0
 rotate_left
 ·rw[(vM (.inr (.inr (.inr (.inr (.inl h4)))))).1,(vM (.inr (.inr (.inr (.inr (.inl h4)))))).2];repeat' (first|refine Xa ?_|refine p9 (λ_=>?_)|intro _|simp only[List.set]|fail)
  (refine Y1 (.tup [D8 X0,int 10]) [] ?_ ⟨rfl,rfl⟩ (List.nil_sublist _);exact CB)
 by_cases h5:oF (gT 71 4000 (lF σ))=0
 rotate_left
 ·rw[(vM (.inr (.inr (.inr (.inr (.inr h5)))))).1,(vM (.inr (.inr (.inr (.inr (.inr h5)))))).2];repeat' (first|refine Xa ?_|refine p9 (λ_=>?_)|intro _|simp only[List.set]|fail)
  (refine Y1 (.tup [D8 X0,int 10]) [] ?_ ⟨rfl,rfl⟩ (List.nil_sublist _);exact CB)
 rw[(Gv h6 h1 h2 h3 h4 h5).1,(Gv h6 h1 h2 h3 h4 h5).2];repeat' (first|refine Xa ?_|refine p9 (λ_=>?_)|intro _|simp only[List.set]|fail)
 exact x9 rfl⟩
end Go.Proofs.Z

namespace Go.Proofs.Z
open Go Go.RowKit Tw Av
def fQ (e:Int):Out18:=([],yS e)
def pQ (d:List Ent)(k v:Bs):Out18:=if (bJ d k v).2=0 then ((bJ d k v).1,oG) else fQ (bJ d k v).2
def UM (d:List Ent)(x:TxX):Out18:=if gL x.x.d=false\/fT x.x.g=false\/(x.k=1/\0<BI x.x.d)\/(x.k=2/\fT x.x.f=false) then fQ 1 else if x.k=1 then ((aL d x.x.g x.x.d x.x.a).1,yS (aL d x.x.g x.x.d x.x.a).2) else ((aC d x.x.f x.x.g x.x.d x.x.a).1,yS (aC d x.x.f x.x.g x.x.d x.x.a).2)
def UO (d:List Ent)(x:TxX)(t:Int):Out18:=
 if x.k=4 then (if U7 d x.i=false then fQ 12 else if iU (U2 d x.i) x.h x.m t≠0 then fQ (iU (U2 d x.i) x.h x.m t) else pQ d (E5 [67] x.i) (Q8 (pM (U2 d x.i) x.h x.m t)))
 else if I4 x.i=false then fQ 1 else if U7 d x.i=true then fQ 13 else if BD x.y x.e x.h≠0 then fQ (BD x.y x.e x.h) else pQ d (E5 [67] x.i) (Q8 (DN x.y x.e x.h))
def Zt (d:List Ent)(x:TxX)(i k:Bs)(try':Bool)(t:Int):Out18:=
 if try'=false then (if (wG x.o x.q).2≠0 then fQ (wG x.o x.q).2 else pQ d (E5 k x.i) (E9 (wG x.o x.q).1))
 else if Q3 d i x.t t (E5 k x.p) (E9 ⟨1,x.q,x.o,[]⟩) x.f≠0 then fQ (Q3 d i x.t t (E5 k x.p) (E9 ⟨1,x.q,x.o,[]⟩) x.f)
 else if (pR x.o x.p ⟨1,x.q,x.o,[]⟩).2≠0 then fQ (pR x.o x.p ⟨1,x.q,x.o,[]⟩).2
 else pQ d (E5 k x.i) (E9 (pR x.o x.p ⟨1,x.q,x.o,[]⟩).1)
def Dx (d:List Ent)(x:TxX)(b:Bool)(t:Int):Out18:=if I4 x.i=false then fQ 1 else if M5 d [75] x.i=true then fQ 13 else if U7 d x.o=false then fQ 12 else Zt d x x.o [75] b t
def Dy (d:List Ent)(x:TxX)(b:Bool)(t:Int):Out18:=if I4 x.i=false then fQ 1 else if M5 d [72] x.i=true then fQ 13 else if M5 d [75] x.o=false then fQ 12 else if (I1 d [75] x.o).s≠3 then fQ 13 else Zt d x (I1 d [75] x.o).o [72] b t
def Qt (d:List Ent)(x:TxX)(i k pp:Bs)(th:EndX)(r:EndX × Int)(t:Int):Out18:=if Q3 d i x.t t (E5 k pp) (E9 th) x.f≠0 then fQ (Q3 d i x.t t (E5 k pp) (E9 th) x.f) else if r.2≠0 then fQ r.2 else pQ d (E5 k x.i) (E9 r.1)
def Qu (d:List Ent)(x:TxX)(own:EndX)(i k:Bs)(ack:Bool)(t:Int):Out18:=if ack=true then Qt d x i k x.p ⟨2,own.q,own.o,x.i⟩ (sN own x.i x.p ⟨2,own.q,own.o,x.i⟩) t else Qt d x i k own.p ⟨3,own.q,own.o,x.i⟩ (wR own x.i ⟨3,own.q,own.o,x.i⟩) t
def YR (d:List Ent)(x:TxX)(b:Bool)(t:Int):Out18:=if M5 d [75] x.i=false then fQ 12 else Qu d x (I1 d [75] x.i) (I1 d [75] x.i).o [75] b t
def YS (d:List Ent)(x:TxX)(b:Bool)(t:Int):Out18:=if M5 d [72] x.i=false then fQ 12 else if M5 d [75] (I1 d [72] x.i).o=false then fQ 12 else Qu d x (I1 d [72] x.i) (I1 d [75] (I1 d [72] x.i).o).o [72] b t

attribute [local irreducible] U7 M5
end Go.Proofs.Z

namespace Go.Proofs.Z
open Go Go.RowKit Tw Av Go.Proofs.Tryz
section
attribute [local irreducible] U7 M5 aV UM UO J9 Y0 I9 j6 Hy
def PL (h t:Int)(l:List Bs):Bs:=y9 104 h++y9 116 t++U0 120 l
instance c3m {h t:Int}{l:List Bs}{xs:List AV}{id:Option Value}[hx:Strs xs l]:Ans prog GL 101 [.agg 3 [int h,int t,.sl 1 xs id]] ((h<=9223372036854775807/\t<=9223372036854775807)/\l.length<=8000000) (str (PL h t l)):=⟨λhp=>by
 obtain⟨⟨h1,h2⟩,h3⟩:=hp;refine zc func101 ntmps101 λ_ hs=>?_;exact o8⟩
def zb1:Bs:=y9 116 0++U0 120 [[120]]
def zb2:Bs:=U0 120 [[120]]
attribute [local irreducible] PL zb1 zb2
end

def K20 (_:Int):Prop:=True
theorem Tq {d:List Ent}{h t:Int}{x:TxX}:Ans prog GL 193 [.agg 1 [.sl 2 (d.map J4) none],D8 x,int h,int t] (DOk d/\TxB x/\K20 x.k) (.tup [dA (u7 d x h t).1,K3 (u7 d x h t).2]):=⟨λhp=>a8S.spec ⟨hp.1,hp.2.1⟩⟩
attribute [instance] Tq

section
variable {xs:List AV}{l:List Bs}{h t:Int}{d:List Ent}
structure BkG (b:BlkX):Prop where
 h:1<=b.h/\b.h<=1099511627776
 t:0<=b.t/\b.t<=1099511627776
 l:b.x.length<=16
 s:∀ s∈b.x,s.length<=6000
def Y4 (b:BlkX):Bs:=PL b.h b.t b.x
instance (priority:=high) c3l {id:Option Value}[hx:Strs xs l]:Ans prog GL 140 [.agg 3 [int h,int t,.sl 1 xs id]] (BkG ⟨h,t,l⟩) (int 0):=⟨λhp=>by
 obtain⟨hh,ht,hl,hs6⟩:=hp;dsimp only at hh ht hl hs6;have h:=hx.out;subst h;have hm:(l.map str).length=l.length:=llm _;refine zc func140 ntmps140 λ_ hs=>?_;repeat' first|refine O ?_|intro
 rename_i g1;refine H7 (α:=Nat) (λi=>[(2,.lit (.int .i64 0)),(28,.sl 1 (l.map str) id),(29,int (l.map str).length),(30,int i)]) (λi=>[])
  (λi=>i<=l.length) (λi=>l.length-i) 0 za (List.nil_sublist _) (Nat.zero_le _) ?_
 intro i hi;by_cases hil:i<l.length
 ·have h6:=hs6 _ (List.getElem_mem hil);repeat' first|refine O ?_|intro
  refine y7 (i+1) za (List.nil_sublist _) hil om
 exact o8⟩
theorem bk_rd {b:BlkX}(h:BkG b):N7 104 1099511627776 (Y4 b) false=b.h/\O1 104 1099511627776 (Y4 b) false=false/\l9 104 8 (Y4 b) false=y9 116 b.t++U0 120 b.x:=by
 have e:Y4 b=y9 104 b.h++(y9 116 b.t++U0 120 b.x):=by unfold Y4 PL;rw[laa]
 obtain⟨h1,h2,h3⟩:=oI (c:=104) (most:=1099511627776) (n:=b.h) (r:=y9 116 b.t++U0 120 b.x) dc dc (by have:=h.h;omega) h.h.2 dc;rw[e];exact⟨h1,h3,h2⟩
theorem b1j {b:BlkX}(h:BkG b):N7 116 1099511627776 (y9 116 b.t++U0 120 b.x) false=b.t/\O1 116 1099511627776 (y9 116 b.t++U0 120 b.x) false=false/\l9 116 8 (y9 116 b.t++U0 120 b.x) false=U0 120 b.x:=by
 obtain⟨h1,h2,h3⟩:=oI (c:=116) (most:=1099511627776) (n:=b.t) (r:=U0 120 b.x) dc dc h.t.1 h.t.2 dc;exact⟨h1,h3,h2⟩
theorem b1i {b:BlkX}(h:BkG b):kM 120 16 6000 (U0 120 b.x) false=b.x/\eY 120 16 6000 (U0 120 b.x) false=false/\l9 120 16777215 (U0 120 b.x) false=[]:=by
 have hl:=h.l;have hf:=KO (c:=120) (n:=6000) (l:=b.x) h.s dc;obtain⟨h1,h2,h3⟩:=RN (c:=120) (many:=16) (most:=6000) (l:=b.x) (r:=[]) dc dc om (λs hs=>by have:=h.s s hs;omega) om;rw[List.append_nil] at h1 h2 h3;exact⟨h1,h3,h2⟩
theorem b1k (b:BlkX):(Y4 b).length<=50331657:=by
 unfold Y4 PL;exact LenLe.out
instance c3i {b:BlkX}:Ans prog GL 96 [str (Y4 b)] (BkG b) (.tup [.agg 3 [int b.h,int b.t,.sl 1 (b.x.map str) none],int 0]):=⟨λhb=>by
 have hp:BkG ⟨b.h,b.t,b.x⟩:=hb;have hl:=b1k b;obtain⟨e1,e2,e3⟩:=bk_rd hb;obtain⟨f1,f2,f3⟩:=b1j hb;obtain⟨k1,k2,k3⟩:=b1i hb;have l1:(y9 116 b.t++U0 120 b.x).length<=1000000000:=Nat.le_trans LenLe.out dc;have l2:(U0 120 b.x).length<=1000000000:=Nat.le_trans LenLe.out dc;generalize hS:Y4 b=S at *;generalize hS1:y9 116 b.t++U0 120 b.x=S1 at *;generalize hS2:U0 120 b.x=S2 at *;refine zc func96 ntmps96 λ_ hs=>?_;repeat' first|refine O ?_|intro
 refine J6 (args:=[str S]) [] _ (by rw[hs];exact yM) (λu m1 hh=>?_) lpr;obtain⟨gr,rfl,rfl⟩:=hh;repeat' first|refine O ?_|intro
 rw[e1,e2,e3];repeat' first|refine O ?_|intro
 rw[f1,f2,f3];repeat' first|refine O ?_|intro
 rw[k1,k2,k3,show X6 [] false=0 from rfl];exact o8⟩
def Tx20 (s:Bs):Prop:=s.length<=6000/\(Y0 (I9 s)=0->K20 (J9 (I9 s)).k)
theorem a1M (hd:DOk d)(hl:l.length<=16)(h:∀ s∈l,Tx20 s):DOk d/\l.length<=1000000/\∀ s∈l,s.length<=1000000000/\(Y0 (I9 s)=0->K20 (J9 (I9 s)).k):=
 ⟨hd,om,λs hs=>⟨Nat.le_trans (h s hs).1 dc,(h s hs).2⟩⟩
instance (priority:=high) c3h {ys:List AV}{id:Option Value}[hx:Ents xs d][hy:Strs ys l]:Ans prog GL 141 [.agg 1 [.sl 2 xs none],.agg 3 [int h,int t,.sl 1 ys id]] (DOk d/\l.length<=1000000/\∀ s∈l,s.length<=1000000000/\(Y0 (I9 s)=0->K20 (J9 (I9 s)).k))
   (.tup [dA (M4 d ⟨h,t,l⟩).1,.sl 3 ((M4 d ⟨h,t,l⟩).2.1.map K3) none,.sl 15 ((M4 d ⟨h,t,l⟩).2.2.map O0) none]):=a8W (K:=K20) Tq
def N9 (d:List Ent):Hsh:=CF d.length (jL (d.map dK))
instance c3j {c:Bs}{ys:List AV}{id:Option Value}[hx:Ents xs d]:Ans prog GL 142 [str c,.agg 3 [int h,int t,.sl 1 ys id],.agg 1 [.sl 2 xs none]] (d.length<=1000000) (R4 ⟨c,h,t,N9 d⟩):=⟨λhl=>by
 have e:=hx.out;subst e;refine zc func142 ntmps142 λ_ hs=>?_;exact o8⟩
end

theorem a9q (l r:Bs):L9 (L9 l++r)=L9 (l++r):=by
 have h1:l++r=l.take (l.length-l.length%64)++(L9 l++r):=by
  unfold L9;rw[<- laa,List.take_append_drop]
 have h2:(l.take (l.length-l.length%64)).length=l.length-l.length%64:=by
  rw[List.length_take];omega
 rw[h1];generalize L9 l++r=B;generalize l.take (l.length-l.length%64)=A at *;unfold L9;have h3:(A++B).length-(A++B).length%64=A.length+(B.length-B.length%64):=by
  rw[lla];omega
 rw[h3,<- List.drop_drop,List.drop_left]
theorem a9p (l:Bs):(L9 l).length<64:=by
 unfold L9;rw[List.length_drop];omega
theorem a4Q (D:List Av.Piece)(a b c:Av.Piece):(D++[b,a,c]).Perm (a::b::(D++[c])):=(List.perm_middle.trans (List.perm_middle.cons b)).trans (List.Perm.swap a b _)
theorem a8i {I:SlI}{x:DvX}{s:SlX}{r:Bs}(hx:DvOk x)(hw:x.ws.length<=1000)(he:0<=s.m.e/\s.m.e<=1000000)(hb:0<=s.m.b/\s.m.b<=1000000)(hc:0<=s.m.c/\s.m.c<=1000000)(hbr:s.br=false) :
  Av.Spec prog GL 100 [ptr I.gs,str r] (U4 I x s) λu m=>u=int (sD x s r).2.2/\∃ v,m=U4 { I with vw:=v } (sD x s r).1 (sD x s r).2.1:=by
 have hn:=hx.n;have hrm:Y6 x.n=(x.n-2)*64:=rfl;refine zc func100 ntmps100 λ_ hs=>?_;repeat' first|refine O ?_|intro
 rw[hbr];repeat' first|refine O ?_|intro
 unfold sD;rw[if_neg (by rw[hbr];decide)];by_cases h1:1048576<r.length
 ·rw[if_pos h1,if_pos h1,if_pos h1];repeat' first|refine O ?_|intro
  refine j4 (U4 I x s) ⟨rfl,I.vw,rfl⟩ ?_;exact A8
 rw[if_neg h1,if_neg h1,if_neg h1];repeat' first|refine O ?_|intro
 refine aI [_] (U4 I x s) [] (a8e hn ⟨hb.1,om⟩) (λu m1 hu=>?_);obtain⟨rfl,rfl⟩:=hu;by_cases h2:Y6 x.n-s.m.b<(I8 r).length
 ·rw[if_pos h2];repeat' first|refine O ?_|intro
  refine j4 (U4 I x s) ⟨rfl,I.vw,rfl⟩ ?_;exact A8
 rw[if_neg h2];have hel:=a9p s.l;have hal:(L9 s.l++I8 r).length=(L9 s.l).length+(I8 r).length:=lla;repeat' first|refine O ?_|intro
 rename_i g2 g7 g8;have hM:MkB (K4 s r):=⟨by unfold K4;dsimp only;omega,by unfold K4;dsimp only;omega,by unfold K4;dsimp only;omega⟩;refine Z0 (vs:=[.pointer (some ⟨g2,0,none⟩)]) ?_;repeat' first|refine O ?_|intro
 refine Z0 (vs:=[.pointer (some ⟨g2,0,none⟩),.pointer (some ⟨g7,0,none⟩)]) ?_;repeat' first|refine O ?_|intro
 refine Z0 (vs:=[.pointer (some ⟨g2,0,none⟩),.pointer (some ⟨g8,0,none⟩)]) ?_;repeat' first|refine O ?_|intro
 refine qQ (U4 I x s++wT 106 9 g2 g7 g8 I.gs (L9 s.l++I8 r) (K4 s r)) _ ?_ (a4Q (U4 I x s) _ _ _) slr;refine T9 (a8h hx hb hM om hbr) (λu m1 hu=>?_);obtain⟨rfl,v,rfl⟩:=hu;have hds:(if (eF x s r).2≠0 then ((eF x s r).1,({ s with br:=true }:SlX),(eF x s r).2) else if (fI x s r).2≠0 then ((fI x s r).1,{ s with br:=true },(fI x s r).2) else if (fH x s r).2≠0 then ((fH x s r).1,{ s with br:=true },(fH x s r).2)
   else if (jG x s r).2≠0 then ((jG x s r).1,{ s with br:=true },(jG x s r).2) else ((jG x s r).1,⟨K4 s r,s.l++I8 r,false⟩,0))=((mG x s r).1,if (mG x s r).2≠0 then { s with br:=true } else ⟨K4 s r,s.l++I8 r,false⟩,(mG x s r).2):=by
  unfold mG;by_cases e1:(eF x s r).2=0
  ·by_cases e2:(fI x s r).2=0
   ·by_cases e3:(fH x s r).2=0
    ·by_cases e4:(jG x s r).2=0
     ·simp[e1,e2,e3,e4]
     simp[e1,e2,e3,e4]
    simp[e1,e2,e3]
   simp[e1,e2]
  simp[e1]
 rw[hds];generalize mG x s r=q at *;obtain⟨y,e⟩:=q;dsimp only;by_cases e0:e=0
 rotate_left
 ·rw[if_pos e0,dT e0];repeat' first|refine O ?_|intro
  refine bG (U4 { I with vw:=v } y { s with br:=true }) _ ?_ lpr (List.sublist_append_left _ _);exact j4 _ ⟨rfl,v,rfl⟩ slr
 subst e0;rw[if_neg (show ¬ ((0:Int)≠0) by decide),dZ (show ¬ ((0:Int)≠0) by decide)];repeat' first|refine O ?_|intro
 apply zd [];exact zg
 ·intro _ _;refine dG ((L9 s.l++I8 r).length-(L9 s.l++I8 r).length%64) (L9 s.l++I8 r).length ?_ (h4:=Nat.le_refl _);rw[List.take_length,show (L9 s.l++I8 r).drop ((L9 s.l++I8 r).length-(L9 s.l++I8 r).length%64)=L9 (L9 s.l++I8 r) from rfl,a9q];exact j5 (A7 rfl rfl)
 repeat' first|refine O ?_|intro
 refine bG (U4 { I with vw:=v } y ⟨K4 s r,s.l++I8 r,false⟩) _ ?_ lpr (List.sublist_append_left _ _);exact j4 _ ⟨rfl,v,rfl⟩ slr

structure ChX where
 nm:Bs
 ky:Bs
 ms:List (List Ent)
 bl:List BlkX
 hs:List Hdr
 ev:List EvX
 ws:List Bs
 dd:Bool
def j3 (c:ChX):List Ent:=c.ms.getD c.hs.length []
def M6 (c:ChX):Int:=((c.hs.getLast?).map (·.t)).getD 0
def OQ (c:ChX)(b:BlkX):Hdr:=⟨c.nm,b.h,b.t,N9 (M4 (j3 c) b).1⟩
def iN (c:ChX)(b:BlkX):ChX:={ c with ms:=c.ms++[(M4 (j3 c) b).1],bl:=c.bl++[b],hs:=c.hs++[OQ c b],ev:=c.ev++(M4 (j3 c) b).2.2 }
structure ChI extends SlI where
 gc:Nat
 vm:Value
 vh:Value
 ve:Value
 vt:Value
abbrev z8 (gs:Nat)(vm vh ve vt:Value)(c:ChX):AV:=.agg 8 [str c.nm,str c.ky,ptr gs,.sl 1 (c.ms.map dA) (some vm),.sl 35 (c.hs.map R4) (some vh),.sl 15 (c.ev.map O0) (some ve),.sl 1 (c.ws.map str) (some vt),d9 c.dd]
abbrev jH (I:ChI)(x:DvX)(s:SlX)(c:ChX):List Av.Piece:=.var I.gc 111 (z8 I.gs I.vm I.vh I.ve I.vt c)::.tail 32 1 I.vm::.tail 93 35 I.vh::.tail 53 15 I.ve::.tail 9 1 I.vt::U4 I.toSlI x s
theorem Rq {b:Bool}:Imp (.tup [.agg 1 [K5],d9 b]) (.tup [dA [],d9 b]):=(inferInstance:ImpR (.tup [.agg 1 [.lit (.slice none 0 0)],d9 b]) (.tup [.agg 1 [.sl 2 [] none],d9 b])).imp
section
variable {g gs:Nat} {vm vh ve vt:Value} {c:ChX}
instance c2T:AnsM prog GL 72 g [] 111 (z8 gs vm vh ve vt c) True (d9 true) (z8 gs vm vh ve vt c):=⟨λ_=>by
 refine zc func72 ntmps72 λ_ hs=>?_;repeat' first|refine O ?_|intro
 exact j4 _ ⟨rfl,rfl⟩ slr⟩
instance c2X:AnsM prog GL 37 g [] 111 (z8 gs vm vh ve vt c) True (d9 c.dd) (z8 gs vm vh ve vt c):=⟨λ_=>by
 refine zc func37 ntmps37 λ_ hs=>?_;repeat' first|refine O ?_|intro
 exact j4 _ ⟨rfl,rfl⟩ slr⟩
instance c2S:AnsM prog GL 29 g [] 111 (z8 gs vm vh ve vt c) True (str c.nm) (z8 gs vm vh ve vt c):=⟨λ_=>by
 refine zc func29 ntmps29 λ_ hs=>?_;repeat' first|refine O ?_|intro
 exact j4 _ ⟨rfl,rfl⟩ slr⟩
instance c2U:AnsM prog GL 23 g [] 111 (z8 gs vm vh ve vt c) True (int c.hs.length) (z8 gs vm vh ve vt c):=⟨λ_=>by
 have hm:(c.hs.map R4).length=c.hs.length:=llm _;refine zc func23 ntmps23 λ_ hs=>?_;repeat' first|refine O ?_|intro
 rw[hm];exact j4 _ ⟨rfl,rfl⟩ slr⟩
instance c2P:AnsM prog GL 22 g [] 111 (z8 gs vm vh ve vt c) True (int c.ws.length) (z8 gs vm vh ve vt c):=⟨λ_=>by
 have hm:(c.ws.map str).length=c.ws.length:=llm _;refine zc func22 ntmps22 λ_ hs=>?_;repeat' first|refine O ?_|intro
 rw[hm];exact j4 _ ⟨rfl,rfl⟩ slr⟩
instance c2Q:AnsM prog GL 75 g [] 111 (z8 gs vm vh ve vt c) (c.hs.length<=1000000) (int (M6 c)) (z8 gs vm vh ve vt c):=⟨λhl=>by
 have hm:(c.hs.map R4).length=c.hs.length:=llm _;refine zc func75 ntmps75 λ_ hs=>?_;repeat' first|refine O ?_|intro
 unfold M6;by_cases h:c.hs.length=0
 ·rw[List.length_eq_zero_iff.1 h];repeat' first|refine O ?_|intro
  exact j4 _ ⟨rfl,rfl⟩ slr
 obtain⟨k,hk⟩:∃ k,c.hs.length=k+1:=⟨c.hs.length-1,om⟩;have hkl:k<c.hs.length:=by omega
 have hg:c.hs.getLast?=some c.hs[k]:=by
  rw[List.getLast?_eq_getElem?,hk];exact List.getElem?_eq_getElem hkl
 rw[hg];repeat' first|refine O ?_|intro
 rw[show ((c.hs.map R4).length:Int)-1=(k:Int) by omega];repeat' first|refine O ?_|intro
 exact j4 _ ⟨rfl,rfl⟩ slr⟩
instance c2Y {h:Int}:AnsM prog GL 40 g [int h] 111 (z8 gs vm vh ve vt c) (c.ms.length<=1000000) (.tup [dA (if 0<=h/\h<c.ms.length then c.ms.getD h.toNat [] else []),d9 (decide (0<=h/\h<c.ms.length))]) (z8 gs vm vh ve vt c):=⟨λhl=>by
 have hm:(c.ms.map dA).length=c.ms.length:=llm _;refine zc func40 ntmps40 λ_ hs=>?_;repeat' first|refine O ?_|intro
 by_cases h0:0<=h
 rotate_left
 ·rw[if_neg (λe=>h0 e.1),dZ (λe=>h0 e.1)];repeat' first|refine O ?_|intro
  refine Y1 (.tup [dA [],d9 false]) [.var g 111 (z8 gs vm vh ve vt c)] ?_ ⟨rfl,rfl⟩ ?_
  ·exact Rq
  exact A8
 by_cases h1:h<c.ms.length
 rotate_left
 ·rw[if_neg (λe=>h1 e.2),dZ (λe=>h1 e.2)];repeat' first|refine O ?_|intro
  refine Y1 (.tup [dA [],d9 false]) [.var g 111 (z8 gs vm vh ve vt c)] ?_ ⟨rfl,rfl⟩ ?_
  ·exact Rq
  exact A8
 obtain⟨k,rfl⟩:∃ k:Nat,h=k:=⟨h.toNat,om⟩;have hkl:k<c.ms.length:=by omega
 rw[if_pos ⟨h0,h1⟩,dT ⟨h0,h1⟩,Int.toNat_natCast,List.getD_eq_getElem?_getD,List.getElem?_eq_getElem hkl];repeat' first|refine O ?_|intro
 refine j4 [.var g 111 (z8 gs vm vh ve vt c)] ⟨rfl,rfl⟩ ?_;exact zb⟩
attribute [local irreducible] M6
instance c2R:AnsM prog GL 14 g [] 111 (z8 gs vm vh ve vt c) (c.hs.length<c.ms.length/\c.ms.length<=1000000) (dA (j3 c)) (z8 gs vm vh ve vt c):=⟨λhl=>by
 have hl2:=hl.2;refine zc func14 ntmps14 λ_ hs=>?_;repeat' first|refine O ?_|intro
 unfold j3;rw[if_pos (show 0<=(c.hs.length:Int)/\(c.hs.length:Int)<c.ms.length by omega),Int.toNat_natCast];refine j4 [.var g 111 (z8 gs vm vh ve vt c)] ⟨rfl,rfl⟩ ?_;exact zb⟩
instance c2V {h:Int}:AnsM prog GL 56 g [int h] 111 (z8 gs vm vh ve vt c) ((c.hs.length<=1000000/\c.ky.length<=1000000)/\∀ y∈c.hs,y.h<=9223372036854775807/\y.t<=9223372036854775807)
  (if 1<=h/\h<=c.hs.length then .tup [R4 (c.hs.getD (h-1).toNat ⟨[],0,0,G8⟩),hA (O7 c.ky (c.hs.getD (h-1).toNat ⟨[],0,0,G8⟩)),d9 true] else .tup [R4 ⟨[],0,0,G8⟩,hA G8,d9 false]) (z8 gs vm vh ve vt c):=⟨λhp=>by
 obtain⟨⟨hl,hky⟩,hy⟩:=hp;have hm:(c.hs.map R4).length=c.hs.length:=llm _;refine zc func56 ntmps56 λ_ hs=>?_;repeat' first|refine O ?_|intro
 by_cases h0:1<=h
 rotate_left
 ·rw[if_neg (λe=>h0 e.1)];repeat' first|refine O ?_|intro
  refine j4 [.var g 111 (z8 gs vm vh ve vt c)] ⟨rfl,rfl⟩ ?_;exact A8
 by_cases h1:h<=c.hs.length
 rotate_left
 ·rw[if_neg (λe=>h1 e.2)];repeat' first|refine O ?_|intro
  refine j4 [.var g 111 (z8 gs vm vh ve vt c)] ⟨rfl,rfl⟩ ?_;exact A8
 obtain⟨k,hk⟩:∃ k:Nat,h=k+1:=⟨(h-1).toNat,om⟩;have hkl:k<c.hs.length:=by omega
 have hyk:=hy _ (List.getElem_mem hkl);have hsp:c.ky.length<=1000000/\c.hs[k].h<=9223372036854775807/\c.hs[k].t<=9223372036854775807:=⟨hky,hyk⟩;rw[if_pos ⟨h0,h1⟩,show h-1=(k:Int) by omega,Int.toNat_natCast,List.getD_eq_getElem?_getD,List.getElem?_eq_getElem hkl];repeat' first|refine O ?_|intro
 rw[show h-1=(k:Int) by omega];repeat' first|refine O ?_|intro
 refine j4 [.var g 111 (z8 gs vm vh ve vt c)] ⟨rfl,rfl⟩ ?_;exact zb⟩
end
end Go.Proofs.Z
