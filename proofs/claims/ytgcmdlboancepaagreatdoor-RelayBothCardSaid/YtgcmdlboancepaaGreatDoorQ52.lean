/- . -/
import Derived.Test.YtgcmdlboancepaaGreatDoorQ47
namespace Go.Proofs.Z
open Go Go.RowKit Tw Av Go.Proofs.Tryz
def uV (evs:List EvX)(p:Pkt):Bool:=evs.any λv=>decide (v.k=13/\v.x=p)
theorem a0z {evs:List EvX}{p:Pkt}:uV evs p=false↔∀ v∈evs,¬ (v.k=13/\v.x=p):=by
 unfold uV;rw[List.any_eq_false];simp
theorem a0y {evs:List EvX}{p:Pkt}{i:Nat}(hi:i<evs.length)(h:evs[i].k=13/\evs[i].x=p):uV evs p=true:=by
 unfold uV;rw[List.any_eq_true];exact⟨_,List.getElem_mem hi,dT h⟩
theorem UB {evs:List EvX}{p:Pkt}{k:Int}(h:p∈O9 evs k):uV evs p=true:=by
 obtain⟨v,hv,h1,_,h2⟩:=Dx h;unfold uV;rw[List.any_eq_true];exact⟨v,hv,dT ⟨h1,h2⟩⟩
instance b6G {evs:List EvX}{p:Pkt}{id:Option Value}:Ans prog GL 11 [.sl 15 (evs.map Q0) id,aT p] (evs.length<=1000000) (d9 (uV evs p)):=⟨λhl=>by
 have hm:(evs.map Q0).length=evs.length:=llm _;refine ze func11 ntmps11 λ_ hs=>?_;repeat' first|refine Z ?_|intro
 rename_i gp;refine y9 (α:=Nat) (λq=>[(0,.sl 15 (evs.map Q0) id),(3,ptr gp),(5,int q)]) (λ_=>[.var gp 49 (aT p)]) (λq=>q<=evs.length/\∀ i (hi:i<evs.length),i<q->¬ (evs[i].k=13/\evs[i].x=p)) (λq=>evs.length-q) 0 zc slr ⟨Nat.zero_le _,λi _ h=>absurd h (Nat.not_lt_zero i)⟩ ?_;rintro q ⟨hq,hn⟩;by_cases hql:q<evs.length
 rotate_left
 ·have hf:uV evs p=false:=by
   rw[a0z];intro v hv;obtain⟨i,hi,rfl⟩:=List.mem_iff_getElem.1 hv;exact hn i hi om
  rw[hf];exact j4
 have hnext:¬ (evs[q].k=13/\evs[q].x=p)->∀ i (hi:i<evs.length),i<q+1->¬ (evs[i].k=13/\evs[i].x=p):=λh i hi hlt=>by
  by_cases e:i=q
  ·subst e;exact h
  exact hn i hi om
 repeat' first|refine Z ?_|intro
 by_cases h13:evs[q].k=13
 rotate_left
 ·rw[dZ h13];repeat' first|refine Z ?_|intro
  exact o9 (q+1) zc slr ⟨hql,hnext λh=>h13 h.1⟩ om
 rw[dT h13];repeat' first|refine Z ?_|intro
 rw[Jl];by_cases hpx:evs[q].x=p
 ·rw[dT hpx,a0y hql ⟨h13,hpx⟩];exact j4
 rw[dZ hpx];repeat' first|refine Z ?_|intro
 exact o9 (q+1) zc slr ⟨hql,hnext λh=>hpx h.2⟩ om⟩
theorem Jk {c0 c1:ChX}(_h0:CG c0)(_h1:CG c1){i:Bs}:∃ L1 L2,oO c0 c1 i=L1++L2/\(∀ x∈L1,x.k=14/\x.t=A9 (j5 c0) i/\uV c1.ev x.x=true)/\∀ x∈L2,(x.k=15\/x.k=16)/\x.t=A9 (j5 c0) i/\uV c0.ev x.x=true:=by
 refine⟨_,_,rfl,λx hx=>?_,λx hx=>?_⟩
 ·obtain⟨p,hp,_,_,rfl⟩:=Sm hx;exact⟨rfl,rfl,UB hp⟩
 obtain⟨p,hp,_,h⟩:=Vj hx;rcases h with⟨_,rfl⟩|⟨_,_,rfl⟩
 ·exact⟨.inl rfl,rfl,UB hp⟩
 exact⟨.inr rfl,rfl,UB hp⟩
abbrev cV (n:Bs)(z:SZ):Av.Piece:=.var z.q.gc 113 (y7 z.q.gs z.q.v.2.1 z.q.v.2.2.1 z.q.v.2.2.2.1 z.q.v.2.2.2.2 (cZ n z))
theorem a2p {α:Type _}(p va vb:α)(A A' B B':List α):(p::((A++va::A')++(B++vb::B'))).Perm (p::va::vb::(A++(A'++(B++B')))):=by
 refine List.Perm.cons _ ?_;refine(List.Perm.append (List.perm_middle (l₁:=A) (a:=va)) (List.perm_middle (l₁:=B) (a:=vb))).trans ?_;rw[List.cons_append];refine List.Perm.cons _ ?_;refine List.perm_middle.trans ?_;rw[laa]
attribute [local irreducible] F8 V4 A9 dQ gM oO bG cK kR lV y8 lZ uV
set_option maxRecDepth 100000 in
set_option maxHeartbeats 8000000 in
theorem a5C {l:List (Int × Int × Int)}{xs:List AV}{id:Option Value}(hxs:xs=l.map EL):Ans prog GL 4 [.sl 3 xs id] True (d9 true):=⟨λ_=>by
 subst hxs;have hm:(l.map EL).length=l.length:=llm _;refine ze func4 ntmps4 λ_ hs=>?_;refine wF 0 (λhbnd=>?_);rw[hm] at hbnd;have hbnd:=nP hbnd;repeat' first|refine Z ?_|intro
 refine H6 (args:=[]) [] _ (by rw[hs];exact YC (.inl rfl)) (λu m1 hh=>?_) lpr;obtain⟨a,b,hA,hB,rfl,rfl⟩:=hh;rw[List.append_nil];repeat' first|refine Z ?_|intro
 rename_i gP;have hA0:SI 2 ⟨a.q,a.y,aX,[]⟩:=⟨hA.ar,hA.ro,⟨Nat.zero_le _,λ_ h=>by cases h⟩,by show 1<=aX.length/\aX.length<=2;decide⟩;have hB0:SI 2 ⟨b.q,b.y,jX,[]⟩:=⟨hB.ar,hB.ro,⟨Nat.zero_le _,λ_ h=>by cases h⟩,by show 1<=jX.length/\jX.length<=2;decide⟩;refine SN (α:={ z:PlZ // SI 17 z.a/\SI 17 z.b }) (λ_=>[(3,d9 true),(4,ptr gP)]) (λz=>.var gP 29 (iD z.1)::zM z.1) ?_ (λz=>?_)
 ·refine y9 (α:=PlZ) (λz=>[(0,.sl 3 (l.map EL) id),(3,d9 true),(4,ptr gP),(6,int z.i)]) (λz=>.var gP 29 (iD z)::zM z)
   (λz=>(z.i<=15/\z.i<=l.length)/\SI (2+z.i) z.a/\SI (2+z.i) z.b) (λz=>15-z.i) ⟨0,⟨a.q,a.y,aX,[]⟩,⟨b.q,b.y,jX,[]⟩⟩ zc slr ⟨⟨Nat.zero_le _,Nat.zero_le _⟩,hA0,hB0⟩ ?_
  clear hA hB hA0 hB0;rintro⟨i,a,b⟩ ⟨⟨hi,hil⟩,hIa,hIb⟩;dsimp only at hi hil hIa hIb ⊢;by_cases hgo:i<l.length/\i<15
  rotate_left
  ·have hor:¬ i<l.length\/(i<l.length/\¬ i<15):=om
   rcases hor with hk1|⟨hk1,hk2⟩
   ·repeat' first|refine Z ?_|intro
    exact aZ ⟨⟨i,a,b⟩,hIa.le om,hIb.le om⟩ zc slr
   repeat' first|refine Z ?_|intro
   exact aZ ⟨⟨i,a,b⟩,hIa.le om,hIb.le om⟩ zc slr
  obtain⟨h1,h2⟩:=hgo;obtain⟨⟨sd,kd,n⟩,hs3⟩:∃ s,l[i]=s:=⟨_,rfl⟩;repeat' first|refine Z ?_|intro
  rw[hs3];apply U2 [1,2,3,4,5,6,7,8,9,10,11,12,13,14,15,16,17,18,19,20,21,22,23,24,25,26,27,28,29,30,31,32,33,34,35,36]
  ·exact rfl
  ·exact rfl
  ·exact rfl
  ·kernel_rfl
  intro sQ hQ;obtain hsd|hsd:sd%2=0\/sd%2=1:=by omega
  ·refine R7 (QF (nz:=[97]) (no:=[98]) (z:=a) (o:=b) (N:=2+i) (i:=0) (sd:=sd) (kd:=kd) (n:=n) (c0:=E8 a.q.gc) (c1:=E8 b.q.gc) (r0:=E8 a.q.gr) (r1:=E8 b.q.gr) hIa hIb om (.inl ⟨rfl,rfl,rfl,rfl,rfl⟩) hsd) (λu m1 hu=>?_);obtain⟨a',hst,⟨v',w',hq⟩,rfl,rfl⟩:=hu;refine j3 (N7 (K9 [97] a'++K9 [98] b) [] rfl rfl lpr rfl ?_);refine oQ (.var gP 29 (iD ⟨i,a,b⟩)::zM ⟨i,a',b⟩) ?_ kr;repeat' first|refine Z ?_|intro
   exact o9 ⟨i+1,a',b⟩ zc (by
    rw[show iD ⟨i+1,a',b⟩=iD ⟨i,a,b⟩ from by show vH a'.q b.q=_;rw[hq]];exact List.Sublist.refl _) ⟨⟨h2,h1⟩,hst.si hIa hIb,hIb.mono⟩ (by dsimp only;omega)
  refine H6 (K9 [98] b++K9 [97] a) [] (by rw[hQ];exact QF (nz:=[98]) (no:=[97]) (z:=b) (o:=a) (N:=2+i) (i:=1) (sd:=sd) (kd:=kd) (n:=n) (c0:=E8 a.q.gc) (c1:=E8 b.q.gc) (r0:=E8 a.q.gr) (r1:=E8 b.q.gr) hIb hIa om (.inr ⟨rfl,rfl,rfl,rfl,rfl⟩) hsd) (λu m1 hu=>?_) (by
   rw[List.append_nil];exact List.perm_append_comm (l₁:=K9 [97] a) (l₂:=K9 [98] b))
  obtain⟨b',hst,⟨v',w',hq⟩,rfl,rfl⟩:=hu;refine j3 (dW (K9 [97] a++K9 [98] b') (K9 [98] b'++K9 [97] a++[]) (N7 (K9 [97] a++K9 [98] b') [] rfl rfl lpr rfl ?_) (by rw[List.append_nil];exact List.perm_append_comm) slr);refine oQ (.var gP 29 (iD ⟨i,a,b⟩)::zM ⟨i,a,b'⟩) ?_ kr;repeat' first|refine Z ?_|intro
  exact o9 ⟨i+1,a,b'⟩ zc (by
   rw[show iD ⟨i+1,a,b'⟩=iD ⟨i,a,b⟩ from by show vH a.q b'.q=_;rw[hq]];exact List.Sublist.refl _) ⟨⟨h2,h1⟩,hIa.mono,hst.si hIb hIa⟩ (by dsimp only;omega)
 obtain⟨⟨i0,a,b⟩,hIa,hIb⟩:=z;dsimp only at hIa hIb ⊢;clear hA hB hA0 hB0;have gA:=hIa.cg [97];have gB:=hIb.cg [98];repeat' first|refine Z ?_|intro
 refine MH ((Av.Piece.var gP 29 (iD ⟨i0,a,b⟩))::(cV [97] a)::(cV [98] b)::((K9 [97] a).take 9++((K9 [97] a).drop 10++((K9 [98] b).take 9++(K9 [98] b).drop 10)))) ((Av.Piece.var gP 29 (iD ⟨i0,a,b⟩))::zM ⟨i0,a,b⟩) ?_ (a2p (Av.Piece.var gP 29 (iD ⟨i0,a,b⟩)) (cV [97] a) (cV [98] b) ((K9 [97] a).take 9) ((K9 [97] a).drop 10) ((K9 [98] b).take 9) ((K9 [98] b).drop 10)).symm slr;generalize (K9 [97] a).take 9++((K9 [97] a).drop 10++((K9 [98] b).take 9++(K9 [98] b).drop 10))=R;refine y9 (α:=Nat) (λq=>[(3,d9 true),(4,ptr gP),(8,int q)]) (λ_=>(Av.Piece.var gP 29 (iD ⟨i0,a,b⟩))::(cV [97] a)::(cV [98] b)::R) (λq=>q<=2) (λq=>2-q) 0 zc slr (Nat.zero_le _) ?_;intro q hq;obtain rfl|rfl|rfl:q=2\/q=0\/q=1:=by omega
 ·exact j4
 ·as_aux_lemma=>
  have hP:=QG (ga:=a.q.gc) (gb:=b.q.gc) (gs0:=a.q.gs) (gs1:=b.q.gs) (a1:=a.q.v.2.1) (a2:=a.q.v.2.2.1) (a3:=a.q.v.2.2.2.1) (a4:=a.q.v.2.2.2.2) (b1:=b.q.v.2.1) (b2:=b.q.v.2.2.1) (b3:=b.q.v.2.2.2.1) (b4:=b.q.v.2.2.2.2) (i:=[107]) gA.k gA.v (λv hv=>(gA.g v hv).x.n) gB.q gB.k.1.2 (λd hd=>Nat.le_trans (gB.m d hd).l dc) gB.v (λv hv=>(gB.g v hv).x.n) (λv hv=>by have:=(gB.g v hv).x.q;omega);obtain⟨L1,L2,hpl,hL1,hL2⟩:=Jk gA gB (i:=[107]);unfold oO at hpl;rw[hpl] at hP;have hlz:=gA.v;have hlo:=gB.v;have hkz:=gA.k;obtain⟨k,hk⟩:∃ k,A9 (j5 (cZ [97] a)) [107]=k:=⟨_,rfl⟩;rw[hk] at hL1 hL2;have hll:((L1++L2).map x9).length=(L1++L2).length:=llm _;have hla:(L1++L2).length=L1.length+L2.length:=lla;repeat' first|refine Z ?_|intro
  apply zf [1,2];exact zi
  ·intro _ _;refine R7 hP (λu m1 hu=>?_);obtain⟨rfl,rfl⟩:=hu;exact j3 (p9 rfl rfl)
  repeat' first|refine Z ?_|intro
  rw[hk];refine wF 9 (λhb9=>?_);rw[hll] at hb9;have hb9:=nP hb9;refine y9 (α:=Nat × Bool) (λq=>[(3,d9 true),(4,ptr gP),(8,int 0),(9,.sl 100 ((L1++L2).map x9) none),(10,d9 q.2),(11,int k),(12,int q.1)]) (λ_=>(Av.Piece.var gP 29 (iD ⟨i0,a,b⟩))::(cV [97] a)::(cV [98] b)::R) (λq=>q.1<=(L1++L2).length/\q.2=decide (L1.length<q.1)) (λq=>(L1++L2).length-q.1) (0,false) zc slr ⟨Nat.zero_le _,rfl⟩ ?_;rintro⟨p,bk⟩ ⟨hp,hbk⟩;dsimp only at hp hbk ⊢;by_cases hpl':p<(L1++L2).length
  rotate_left
  ·obtain rfl:p=(L1++L2).length:=by omega
   repeat' first|refine Z ?_|intro
   exact o9 1 zc slr dc dc
  by_cases hp1:p<L1.length
  ·as_aux_lemma=>
   obtain⟨k1,k2,hsn⟩:=hL1 _ (show (L1++L2)[p]∈L1 by rw[List.getElem_append_left hp1];exact List.getElem_mem hp1);rw[dZ (show ¬ L1.length<p by omega)] at hbk;subst hbk;repeat' first|refine Z ?_|intro
   rw[hsn];repeat' first|refine Z ?_|intro
   exact o9 (p+1,false) ⟨rfl,rfl,rfl,rfl,congrArg (λb=>some (AV.lit (.bool b))) (dZ (p:=(L1++L2)[p].k≠14) λh=>h k1),rfl,rfl,trivial⟩ slr ⟨hpl',(dZ (show ¬ L1.length<p+1 by omega)).symm⟩ (by dsimp only;omega)
  obtain⟨k1,k2,hsn⟩:=hL2 _ (show (L1++L2)[p]∈L2 by rw[List.getElem_append_right om];exact List.getElem_mem _);cases bk
  all_goals
   rcases k1 with k1|k1
   all_goals
    as_aux_lemma=>
     repeat' first|refine Z ?_|intro
     rw[hsn];repeat' first|refine Z ?_|intro
     exact o9 (p+1,true) ⟨rfl,rfl,rfl,rfl,by first|exact rfl|exact congrArg (λb=>some (AV.lit (.bool b))) (dT (p:=(L1++L2)[p].k≠14) om),rfl,rfl,trivial⟩ slr ⟨hpl',(dT (show L1.length<p+1 by omega)).symm⟩ (by dsimp only;omega)
 as_aux_lemma=>
 have hP:=QG (ga:=b.q.gc) (gb:=a.q.gc) (gs0:=b.q.gs) (gs1:=a.q.gs) (a1:=b.q.v.2.1) (a2:=b.q.v.2.2.1) (a3:=b.q.v.2.2.2.1) (a4:=b.q.v.2.2.2.2) (b1:=a.q.v.2.1) (b2:=a.q.v.2.2.1) (b3:=a.q.v.2.2.2.1) (b4:=a.q.v.2.2.2.2) (i:=[107]) gB.k gB.v (λv hv=>(gB.g v hv).x.n) gA.q gA.k.1.2 (λd hd=>Nat.le_trans (gA.m d hd).l dc) gA.v (λv hv=>(gA.g v hv).x.n) (λv hv=>by have:=(gA.g v hv).x.q;omega);obtain⟨L1,L2,hpl,hL1,hL2⟩:=Jk gB gA (i:=[107]);unfold oO at hpl;rw[hpl] at hP;have hlz:=gB.v;have hlo:=gA.v;have hkz:=gB.k;obtain⟨k,hk⟩:∃ k,A9 (j5 (cZ [98] b)) [107]=k:=⟨_,rfl⟩;rw[hk] at hL1 hL2;have hll:((L1++L2).map x9).length=(L1++L2).length:=llm _;have hla:(L1++L2).length=L1.length+L2.length:=lla;repeat' first|refine Z ?_|intro
 apply zf [1,2];exact zi
 ·intro sQ hQ;refine H6 [cV [98] b,cV [97] a] [] (by rw[hQ];exact hP) (λu m1 hu=>?_) (List.Perm.swap _ _ _);obtain⟨rfl,rfl⟩:=hu;refine j3 (dW [cV [97] a,cV [98] b] [cV [98] b,cV [97] a] ?_ (List.Perm.swap _ _ _) slr);exact p9 rfl rfl
 repeat' first|refine Z ?_|intro
 rw[hk];refine wF 9 (λhb9=>?_);rw[hll] at hb9;have hb9:=nP hb9;refine y9 (α:=Nat × Bool) (λq=>[(3,d9 true),(4,ptr gP),(8,int 1),(9,.sl 100 ((L1++L2).map x9) none),(10,d9 q.2),(11,int k),(12,int q.1)]) (λ_=>(Av.Piece.var gP 29 (iD ⟨i0,a,b⟩))::(cV [97] a)::(cV [98] b)::R) (λq=>q.1<=(L1++L2).length/\q.2=decide (L1.length<q.1)) (λq=>(L1++L2).length-q.1) (0,false) zc slr ⟨Nat.zero_le _,rfl⟩ ?_;rintro⟨p,bk⟩ ⟨hp,hbk⟩;dsimp only at hp hbk ⊢;by_cases hpl':p<(L1++L2).length
 rotate_left
 ·obtain rfl:p=(L1++L2).length:=by omega
  repeat' first|refine Z ?_|intro
  exact o9 2 zc slr dc dc
 by_cases hp1:p<L1.length
 ·as_aux_lemma=>
  obtain⟨k1,k2,hsn⟩:=hL1 _ (show (L1++L2)[p]∈L1 by rw[List.getElem_append_left hp1];exact List.getElem_mem hp1);rw[dZ (show ¬ L1.length<p by omega)] at hbk;subst hbk;repeat' first|refine Z ?_|intro
  rw[hsn];repeat' first|refine Z ?_|intro
  exact o9 (p+1,false) ⟨rfl,rfl,rfl,rfl,congrArg (λb=>some (AV.lit (.bool b))) (dZ (p:=(L1++L2)[p].k≠14) λh=>h k1),rfl,rfl,trivial⟩ slr ⟨hpl',(dZ (show ¬ L1.length<p+1 by omega)).symm⟩ (by dsimp only;omega)
 obtain⟨k1,k2,hsn⟩:=hL2 _ (show (L1++L2)[p]∈L2 by rw[List.getElem_append_right om];exact List.getElem_mem _);cases bk
 all_goals
  rcases k1 with k1|k1
  all_goals
   as_aux_lemma=>
    repeat' first|refine Z ?_|intro
    rw[hsn];repeat' first|refine Z ?_|intro
    exact o9 (p+1,true) ⟨rfl,rfl,rfl,rfl,by first|exact rfl|exact congrArg (λb=>some (AV.lit (.bool b))) (dT (p:=(L1++L2)[p].k≠14) om),rfl,rfl,trivial⟩ slr ⟨hpl',(dT (show L1.length<p+1 by omega)).symm⟩ (by dsimp only;omega)⟩
end Go.Proofs.Z
