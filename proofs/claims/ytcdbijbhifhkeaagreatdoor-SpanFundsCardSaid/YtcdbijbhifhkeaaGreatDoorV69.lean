/- . -/
import Derived.Test.YtcdbijbhifhkeaaGreatDoorV64
set_option maxHeartbeats 64000000
namespace Go.Proofs.Z
open Go Go.RowKit Tw Av Go.Proofs.Tryz
abbrev wD:Bs:=R9 [120]
section
variable {d d':List Ent} {k q:Bs} {n:Wd} {c:UInt8}
theorem TV (h:Off c d d')(hk:k.head?=some c):F9 d' k=F9 d k:=by
 unfold F9 P7;rw[h.f k hk]
theorem ZG (h:DOk d)(he:(iY k n d).2=0):(F9 (iY k n d).1 k).n=(F9 d k).n+n.n/\∀ q,q≠k->F9 (iY k n d).1 q=F9 d q:=by
 unfold iY at he ⊢;split
 ·rename_i h1;rw[if_pos h1] at he;obtain⟨e1,e2⟩:=RY he;rw[e2];exact⟨Rz h.s (of_decide_eq_true h1),λq hq=>rP h.s hq⟩
 rename_i h1;rw[if_neg h1] at he;exact absurd he dc
theorem ZU (h:DOk d)(he:(fZ k n d).2=0):n.n<=(F9 d k).n/\(F9 (fZ k n d).1 k).n=(F9 d k).n-n.n/\∀ q,q≠k->F9 (fZ k n d).1 q=F9 d q:=by
 have hlt:=(F9 d k).lt;unfold fZ at he ⊢;split
 ·rename_i h1;rw[if_pos h1] at he;exact absurd he dc
 rename_i h1;rw[if_neg h1] at he;refine⟨om,?_⟩;split
 ·rename_i h2;refine⟨?_,λq hq=>a7K h.s hq⟩;rw[a7J h.s,h2,Nat.sub_self];rfl
 rename_i h2;rw[if_neg h2] at he;obtain⟨e1,e2⟩:=RY he;rw[e2];exact⟨Rz h.s om,λq hq=>rP h.s hq⟩
variable {a b t:Bs}
theorem a5W (h:DOk d)(he:(aL d a t n).2=0):(F9 (aL d a t n).1 (F6 a t)).n=(F9 d (F6 a t)).n+n.n/\(F9 (aL d a t n).1 (R9 t)).n=(F9 d (R9 t)).n+n.n/\∀ q,q≠F6 a t->q≠R9 t->F9 (aL d a t n).1 q=F9 d q:=by
 unfold aL at he ⊢;split
 ·rename_i h1;rw[if_pos h1] at he;exact absurd he dc
 rename_i h1;rw[if_neg h1] at he;split
 ·rename_i h2;rw[if_pos h2] at he;exact absurd he dc
 rename_i h2;rw[if_neg h2] at he;obtain⟨e1,e2,e3⟩:=then_ok he;rw[e3];obtain⟨m1,m2⟩:=ZG h e1;obtain⟨m3,m4⟩:=ZG (OA h) e2;exact⟨by rw[m3,m2 _ Ed],by rw[m4 _ (λe=>Ed e.symm),m1],λq q1 q2=>by rw[m4 q q1,m2 q q2]⟩
theorem a5G (hk:F6 b t≠F6 a t)(hab:a≠b)(h:DOk d)(he:(aC d a b t n).2=0):n.n<=(F9 d (F6 a t)).n/\(F9 (aC d a b t n).1 (F6 a t)).n=(F9 d (F6 a t)).n-n.n/\(F9 (aC d a b t n).1 (F6 b t)).n=(F9 d (F6 b t)).n+n.n /\
  ∀ q,q≠F6 a t->q≠F6 b t->F9 (aC d a b t n).1 q=F9 d q:=by
 unfold aC at he ⊢;split
 ·rename_i h1;rw[if_pos h1] at he;exact absurd he dc
 rename_i h1;rw[if_neg h1] at he;split
 ·rename_i h2;exact absurd h2.1 hab
 rename_i h2;rw[if_neg h2] at he;obtain⟨e1,e2,e3⟩:=then_ok he;rw[e3];obtain⟨m0,m1,m2⟩:=ZU h e1;obtain⟨m3,m4⟩:=ZG (FW h) e2;exact⟨m0,by rw[m4 _ (λe=>hk e.symm),m1],by rw[m3,m2 _ hk],λq q1 q2=>by rw[m4 q q2,m2 q q1]⟩
theorem b1a (h:DOk d)(h0:(F9 d (F6 a t)).n=0)(hn:1<=n.n):(nR d a t n).2≠0:=λhe=>by
 unfold nR at he;split at he
 ·exact absurd he dc
 obtain⟨e1,e2,e3⟩:=then_ok he;obtain⟨m0,m1,m2⟩:=ZU h e1;obtain⟨m3,_⟩:=ZU (FW h) e2;rw[m2 _ Ed] at m3;omega
end
inductive FX:TxX->Prop
 | upd (x:TxX) (h:x.k=4):FX x
 | fnd (n:Int):FX (uY n)
 | snd (n k:Int) (h:0<=k):FX (U1 [120] [97,110,110] [98,111,98] n k)
 | hom (n k:Int) (h:0<=k):FX (U1 [99,47,120] [98,111,98] [97,110,110] n k)
def okF (s:Bs):Prop:=Y0 (I9 s)=0->FX (J9 (I9 s))
structure FunI (N:Nat)(d:List Ent)(ev:List EvX):Prop where
 ok:DOk d
 s:(F9 d iK).n+(F9 d lZ).n=(F9 d wD).n
 l:1000<=(F9 d wD).n
 u:(F9 d wD).n<=1000+8*N
 b:(F9 d gG).n=0
 e:∀ v∈ev,v.k=13->20<=v.x.h/\v.x.t=0
section
variable {N:Nat} {d:List Ent} {ev:List EvX} {x:TxX} {ht t:Int}
theorem FunI.up (h:FunI N d ev){M:Nat}(hM:N<=M):FunI M d ev:=⟨h.ok,h.s,h.l,by have:=h.u;omega,h.b,h.e⟩
theorem Gl {c:UInt8}(hc:c≠67)(h:DOk d):Off c d (lL d x t).1:=by
 have hk:(E5 [67] x.i).head?≠some c:=λe=>hc (by have e2:some (67:UInt8)=some c:=e;injection e2 with e2;exact e2.symm);unfold lL;repeat' (first|exact mD h|exact JJ h hk|split)
theorem a0g {n:Int}:1<=(H9 (O5 n)).n/\(H9 (O5 n)).n<=8:=by
 have h:=a0h n;rw[mO om];exact h
theorem Ai {i a t:Bs}{j:Int}:F6 a t≠G9 [80] i j:=λe=>by
 have h:some (66:UInt8)=some 80:=congrArg List.head? e;cases h
theorem Ak {i a t:Bs}:F6 a t≠E5 [78] i:=λe=>by
 have h:some (66:UInt8)=some 78:=congrArg List.head? e;cases h
theorem Ah {i t:Bs}{j:Int}:R9 t≠G9 [80] i j:=λe=>by
 have h:some (83:UInt8)=some 80:=congrArg List.head? e;cases h
theorem Aj {i t:Bs}:R9 t≠E5 [78] i:=λe=>by
 have h:some (83:UInt8)=some 78:=congrArg List.head? e;cases h
theorem FunI.do (h:FunI N d ev)(hx:FX x):FunI (N+1) (u7 d x ht t).1 (if (u7 d x ht t).2.e=0/\13<=x.k then ev++[jF (u7 d x ht t).1 ht x (u7 d x ht t).2] else ev):=by
 by_cases he:(u7 d x ht t).2.e=0
 rotate_left
 ·rw[if_neg (λe=>he e.1),Cf d x ht t he];exact h.up (Nat.le_succ N)
 cases hx with
 | upd x hk=>
  have e1:u7 d x ht t=lL d x t:=by
   unfold u7;rw[if_neg om,if_neg om,if_neg om,if_pos hk]
  rw[if_neg om,e1];have o1:=Gl (c:=66) (x:=x) (t:=t) dc h.ok;have o2:=Gl (c:=83) (x:=x) (t:=t) dc h.ok;have w1:=TV (k:=iK) o1 rfl;have w2:=TV (k:=lZ) o1 rfl;have w3:=TV (k:=wD) o2 rfl;have w4:=TV (k:=gG) o1 rfl;exact⟨o1.ok,by rw[w1,w2,w3];exact h.s,by rw[w3];exact h.l,by rw[w3];have:=h.u;omega,by rw[w4];exact h.b,h.e⟩
 | fnd n=>
  have e1:u7 d (uY n) ht t=jN d (aL d [97,110,110] [120] (H9 (O5 n))) oG:=by
   show rQ d (uY n).x=_;unfold rQ;rw[if_neg (by show ¬ (gL [120]=false\/0<BI [120]\/fT [97,110,110]=false);decide)];rfl
  rw[if_neg (λe=>absurd e.2 (by show ¬ (13:Int)<=1;decide))];rw[e1] at he ⊢;have ha:=a0g (n:=n);generalize H9 (O5 n)=w at *;unfold jN at he ⊢;split at he
  rotate_left
  ·rename_i h1;exact absurd he h1
  rename_i h1;rw[if_pos h1];obtain⟨m1,m2,m3⟩:=a5W h.ok h1;have w2:=m3 lZ dc dc;have w4:=m3 gG dc dc;have s:=h.s;have l:=h.l;have u:=h.u;have m1':(F9 (aL d [97,110,110] [120] w).1 iK).n=(F9 d iK).n+w.n:=m1;have m2':(F9 (aL d [97,110,110] [120] w).1 wD).n=(F9 d wD).n+w.n:=m2;exact⟨OB h.ok,by rw[m1',m2',w2];omega,by rw[m2'];omega,by rw[m2'];omega,by rw[w4];exact h.b,h.e⟩
 | snd n k hk=>
  have e1:u7 d (U1 [120] [97,110,110] [98,111,98] n k) ht t=eX d (U1 [120] [97,110,110] [98,111,98] n k).x:=rfl;rw[if_pos ⟨he,by show (13:Int)<=13;decide⟩];have hv:(jF (u7 d (U1 [120] [97,110,110] [98,111,98] n k) ht t).1 ht (U1 [120] [97,110,110] [98,111,98] n k) (u7 d (U1 [120] [97,110,110] [98,111,98] n k) ht t).2).x.h=k+20/\(jF (u7 d (U1 [120] [97,110,110] [98,111,98] n k) ht t).1 ht (U1 [120] [97,110,110] [98,111,98] n k) (u7 d (U1 [120] [97,110,110] [98,111,98] n k) ht t).2).x.t=0:=⟨rfl,rfl⟩;generalize jF (u7 d (U1 [120] [97,110,110] [98,111,98] n k) ht t).1 ht (U1 [120] [97,110,110] [98,111,98] n k) (u7 d (U1 [120] [97,110,110] [98,111,98] n k) ht t).2=v at hv ⊢;rw[e1] at he ⊢;obtain⟨c1,c2,c3,c4,c5⟩:=WN he;rw[c5];have hm:Z6 d (goes d (U1 [120] [97,110,110] [98,111,98] n k).x)=aC d [97,110,110] (gK [99]) [120] (H9 (O5 n)):=by
   unfold Z6;have hh:wH (goes d (U1 [120] [97,110,110] [98,111,98] n k).x)=false:=by show xP [99] [120]=false;decide
   rw[if_neg (by rw[c1];decide),if_neg (by rw[hh];decide)];rfl
  rw[hm] at c2 c3 c4 ⊢;have ok1:DOk (aC d [97,110,110] (gK [99]) [120] (H9 (O5 n))).1:=NZ h.ok;obtain⟨m0,m1,m2,m3⟩:=a5G (a:=[97,110,110]) (b:=gK [99]) (t:=[120]) dc dc h.ok c2;have w3:=m3 wD dc dc;have w4:=m3 gG dc dc;have m1':(F9 (aC d [97,110,110] (gK [99]) [120] (H9 (O5 n))).1 iK).n=(F9 d iK).n-(H9 (O5 n)).n:=m1;have m2':(F9 (aC d [97,110,110] (gK [99]) [120] (H9 (O5 n))).1 lZ).n=(F9 d lZ).n+(H9 (O5 n)).n:=m2;have m0':(H9 (O5 n)).n<=(F9 d iK).n:=m0;generalize (aC d [97,110,110] (gK [99]) [120] (H9 (O5 n))).1=d1 at *;generalize (goes d (U1 [120] [97,110,110] [98,111,98] n k).x).q=qq at *;generalize M9 (goes d (U1 [120] [97,110,110] [98,111,98] n k).x)=ww at *;have p1:=ok1.put c3;have p2:=p1.put c4;have s:=h.s;have l:=h.l;have u:=h.u;refine⟨p2,?_,?_,?_,?_,λy hy hk13=>?_⟩
  ·rw[rP p1.s Ak,rP ok1.s Ai,rP p1.s Ak,rP ok1.s Ai,rP p1.s Aj,rP ok1.s Ah,m1',m2',w3];omega
  ·rw[rP p1.s Aj,rP ok1.s Ah,w3];exact l
  ·rw[rP p1.s Aj,rP ok1.s Ah,w3];omega
  ·rw[rP p1.s Ak,rP ok1.s Ai,w4];exact h.b
  rcases List.mem_append.1 hy with hy|hy
  ·exact h.e y hy hk13
  rw[List.mem_singleton.1 hy,hv.1,hv.2];omega
 | hom n k hk=>
  exfalso
  have e1:u7 d (U1 [99,47,120] [98,111,98] [97,110,110] n k) ht t=eX d (U1 [99,47,120] [98,111,98] [97,110,110] n k).x:=rfl;rw[e1] at he;obtain⟨c1,c2,_⟩:=WN he;have hm:Z6 d (goes d (U1 [99,47,120] [98,111,98] [97,110,110] n k).x)=nR d [98,111,98] [99,47,120] (H9 (O5 n)):=by
   unfold Z6;have hh:wH (goes d (U1 [99,47,120] [98,111,98] [97,110,110] n k).x)=true:=by show xP [99] [99,47,120]=true;decide
   rw[if_neg (by rw[c1];decide),if_pos hh];rfl
  rw[hm] at c2;exact b1a h.ok h.b (a0g (n:=n)).1 c2
theorem FunI.run {ev0:List EvX}{h t:Int}:∀ {l:List Bs} {q:Run3} {N:Nat},FunI N q.1 (ev0++q.2.2)->(∀ s∈l,okF s)->FunI (N+l.length) (Z7 h t q l).1 (ev0++(Z7 h t q l).2.2)
 | [],_,_,hp,_=>hp
 | s::l,q,N,hp,hl=>by
  rw[CO,List.length_cons,show N+(l.length+1)=N+1+l.length by omega];refine FunI.run (l:=l) ?_ (λs hs=>hl s (List.mem_cons_of_mem _ hs));unfold bP;split
  ·rename_i h0;have hd:=hp.do (x:=J9 (I9 s)) (ht:=h) (t:=t) (hl s List.mem_cons_self h0);unfold xN;dsimp only;split
   ·rename_i hc;rw[if_pos hc,laa] at hd;exact hd
   rename_i hc;rw[if_neg hc] at hd;exact hd
  exact hp.up (Nat.le_succ N)
end
section
variable {nm:Bs} {bs:List BlkX} {b:BlkX}
theorem a7S (hb:BsG bs)(hp:FunI (16*bs.length) (Dm nm bs) (yB nm bs))(hw:∀ s∈b.x,okF s)(hl:b.x.length<=16):FunI (16*(bs++[b]).length) (Dm nm (bs++[b])) (yB nm (bs++[b])):=by
 show FunI _ _ (opC nm (x8 nm) w9 (bs++[b])).ev;rw[EM hb,GM,lla,List.length_singleton];exact(FunI.run (h:=b.h) (t:=b.t) (l:=b.x) (q:=(Dm nm bs,[],[])) (by rw[List.append_nil];exact hp) hw).up om
end
def NoG (d:List Ent):Prop:=DOk d/\∀ q:Bs,q.head?=some 71->gO d q=none
theorem ZA:NoG []:=⟨.nil,λ_ _=>rfl⟩
theorem Ow {h t:Int}:∀ {l:List Bs} {q:Run3},(Z7 h t q l).2.2.length<=q.2.2.length->NoG q.1->NoG (Z7 h t q l).1
 | [],_,_,hq=>hq
 | s::l,q,hl,hq=>by
  rw[CO] at hl ⊢;have hg:∀ (l:List Bs) (q:Run3),q.2.2.length<=(Z7 h t q l).2.2.length:=λl=>by
   induction l with
   | nil=>exact λq=>Nat.le_refl _
   | cons s l ih=>
    intro q;rw[CO];refine Nat.le_trans ?_ (ih _);unfold bP xN;split
    ·dsimp only;split
     ·rw[lla];omega
     exact Nat.le_refl _
    exact Nat.le_refl _
  have h1:=hg l (bP h t q s);have h2:(bP h t q s).2.2.length<=q.2.2.length:=by omega
  refine Ow (l:=l) (by
   have h3:=hg [s] q;have e:Z7 h t q [s]=bP h t q s:=rfl;rw[e] at h3;omega) ?_
  unfold bP at h2 ⊢;split
  ·rename_i h0;rw[if_pos h0] at h2;unfold xN at h2 ⊢;dsimp only at h2 ⊢;by_cases hc:(u7 q.1 (J9 (I9 s)) h t).2.e=0/\13<=(J9 (I9 s)).k
   ·rw[if_pos hc,lla,List.length_singleton] at h2;omega
   by_cases he:(u7 q.1 (J9 (I9 s)) h t).2.e=0
   ·have hk:¬ 13<=(J9 (I9 s)).k:=λhk=>hc ⟨he,hk⟩;have o:=Ce (c:=71) (x:=J9 (I9 s)) (ht:=h) (t:=t) dc (λ_=>by decide) (λe=>by omega) (λ_=>by decide) hq.1;exact⟨o.ok,λk hk=>by rw[o.f k hk];exact hq.2 k hk⟩
   rw[Cf q.1 (J9 (I9 s)) h t he];exact hq
  exact hq
theorem b0f:NoG w9:=⟨bD,λk hk=>TW.2 λx hx e=>by
 have h1:(w9.all λx=>!decide (x.key.head?=some 71))=true:=kr
 have h2:=List.all_eq_true.1 h1 x hx;rw[e,hk] at h2;cases h2⟩
theorem a5w {c:ChX}(h:∀ d∈c.ms,NoG d):NoG (j3 c):=by
 unfold j3;rw[List.getD_eq_getElem?_getD];cases e:c.ms[c.hs.length]? with
 | none=>exact ZA
 | some d=>exact h d (List.mem_of_getElem? e)
theorem Ox {nm ky:Bs}:∀ (n:Nat) (bs:List BlkX),bs.length=n->(opC nm ky w9 bs).ev=[]->∀ d∈(opC nm ky w9 bs).ms,NoG d
 | 0,bs,hl,_=>by
  obtain rfl:=List.length_eq_zero_iff.1 hl;intro d hd;rw[List.mem_singleton.1 (show d∈[w9] from hd)];exact b0f
 | n+1,bs,hl,he=>by
  obtain⟨bs',b,rfl⟩:∃ bs' b,bs=bs'++[b]:=⟨bs.dropLast,bs.getLast (λe=>by rw[e] at hl;cases hl),(List.dropLast_concat_getLast _).symm⟩;rw[lla,List.length_singleton] at hl;rw[FR] at he ⊢;obtain⟨e1,e2⟩:=List.append_eq_nil_iff.1 (show (opC nm ky w9 bs').ev++(M4 (j3 (opC nm ky w9 bs')) b).2.2=[] from he);have ih:=Ox n bs' om e1;intro d hd;rcases List.mem_append.1 (show d∈(opC nm ky w9 bs').ms++[(M4 (j3 (opC nm ky w9 bs')) b).1] from hd) with hd|hd
  ·exact ih d hd
  rw[List.mem_singleton.1 hd];refine Ow (q:=(j3 (opC nm ky w9 bs'),[],[])) ?_ (a5w ih);have e3:(Z7 b.h b.t (j3 (opC nm ky w9 bs'),[],[]) b.x).2.2=[]:=e2;rw[e3];exact Nat.le_refl _
structure OthG (c:ChX):Prop where
 e:c.ev=[]
 g:∀ d∈c.ms,NoG d
 h:c.hs.length<=19
theorem a4J {c o:ChX}(ho:OthG o)(he:∀ v∈c.ev,v.k=13->20<=v.x.h/\v.x.t=0):lU c o [107]=[]:=by
 have h1:V6 o.ev (A9 (j3 c) [107])=[]:=by rw[ho.e];rfl
 unfold lU;rw[h1,show ∀ (a b:List Ent) (h t k:Int),eD a b h t k []=[] from λ_ _ _ _ _=>rfl,List.nil_append];rw[List.eq_nil_iff_forall_not_mem];intro x hx;obtain⟨p,hp,_,hq⟩:=Zw hx;obtain⟨v,hv,hk,_,rfl⟩:=Ia hp;obtain⟨e1,e2⟩:=he v hv hk;have hM:NoG (Q7 o (A9 (j3 c) [107])):=by
  unfold Q7;split
  ·rw[List.getD_eq_getElem?_getD];cases e:o.ms[(A9 (j3 c) [107]).toNat]? with
   | none=>exact ZA
   | some d=>exact ho.g d (List.mem_of_getElem? e)
  exact ZA
 have hl:=ho.h;rcases hq with⟨hq,_⟩|⟨_,hq,_⟩
 ·rw[xY hM.1.s,hM.2 _ rfl] at hq;cases hq
 unfold qW at hq;split at hq
 ·have h2:=of_decide_eq_true (show decide ((v.x.h≠0/\v.x.h<=A9 (j3 c) [107])\/(v.x.t≠0/\v.x.t<=_))=true from hq);omega
 cases hq
section
variable {N M:Nat} {z z' o:SpX} {bs bs' bo:List BlkX} {ws ws' wo:List Bs} {dd dd' d2:Bool} {p:PlX} {s:Bs} {t:Int}
structure SpF (N:Nat)(z:SpX)(bs:List BlkX)(ws:List Bs)(dd:Bool):Prop where
 g:SpG N [97] z bs ws dd
 f:FunI (16*bs.length) (Dm [97] bs) (yB [97] bs)
 w:∀ s∈ws,okF s
theorem SpF.up (h:SpF N z bs ws dd):SpF (N+1) z bs ws dd:=⟨h.g.up,h.f,h.w⟩
theorem SpF.ev (h:SpF N z bs ws dd):z.c.ev=yB [97] bs:=by rw[h.g.c];rfl
theorem SpF.st (h:SpF N z bs ws dd):j3 z.c=Dm [97] bs:=by rw[h.g.c];rfl
theorem a2l (hz:SpF N z bs ws dd)(ho:OthG o.c)(hk:p.k≠6)(h:SubT z o p s):okF s:=by
 have hr:=KD (j3 z.c) [107];cases h with
 | send h=>
  intro he;rw[QM ⟨dc,dc,dc⟩ hr he];exact .snd _ _ hr.1
 | home h=>
  intro he;rw[QM ⟨dc,dc,dc⟩ hr he];exact .hom _ _ hr.1
 | header h=>
  intro he;refine .upd _ ?_;rw[QW (by show (0:Int)<=4/\(4:Int)<=16;decide) he];rfl
 | relay x h hx=>
  have hm:=Kc hx;rw[a4J ho (by rw[hz.ev];exact hz.f.e)] at hm;cases hm
 | tx h=>exact absurd h hk
 | fund h=>
  intro he;rw[a7X];exact .fnd _
theorem a9D (hz:SpF N z bs ws dd)(ho:SpG M [98] o bo wo d2)(hO:OthG o.c)(hN:N<=180)(hM:M<=180)(hk:p.k≠6/\p.k≠7/\p.k≠8)(hs:p.s=0) :
  ∃ b z' bs' ws' dd',SpF (N+1) z' bs' ws' dd'/\∀ (q qo:SpI) (gx:Nat) (id:Option Value),
   Av.Spec prog GL 11 [ptr gx,K9 p id] (C8 gx q.g qo.g [97] [98] q qo z o) λu m=>∃ t t':SpI,u=d9 b/\m=C8 gx t.g t'.g [97] [98] t t' z' o:=by
 obtain⟨r,z',b1,w1,d1,hpl,hg,hS⟩:=JN (p:=p) hz.g ho dc dc hN hM;refine⟨r,z',b1,w1,d1,?_,λq qo gx id=>(hS q qo gx q.g qo.g id (.inl ⟨hs,rfl,rfl⟩)).mono ?_⟩;rotate_left
 ·rintro u m ⟨t,e,rfl,rfl⟩;exact⟨t,qo,rfl,by rw[e]⟩
 cases hpl with
 | sub s h ws'=>exact⟨hg,hz.f,Ho hz.g hg hz.w (a2l hz hO hk.1 h)⟩
 | none h=>exact hz.up
 | cut h bs' ws' dd' h1 h2=>
  cases hr:(O4 z (M6 z.c+aT p.n 4)).2
  ·obtain⟨e1,e2,_⟩:=h2 hr;exact⟨hg,by rw[e1];exact hz.f,by rw[e2];exact hz.w⟩
  obtain⟨_,e1,e2,_⟩:=h1 hr;exact⟨hg,by rw[e1];exact a7S hz.g.l.g hz.f hz.w hz.g.l.ws.l,by rw[e2];simp⟩
 | arm h=>exact absurd h hk.2.1
 | crash h=>exact absurd h hk.2.2
end
structure PrF (N:Nat)(a b:SpX):Prop where
 ha:∃ bs ws dd,SpF N a bs ws dd
 hb:∃ M bs ws dd,SpG M [98] b bs ws dd/\M<=180
 ho:OthG b.c
theorem a4x {N:Nat}{a b:SpX}{p:PlX}(h:PrF N a b)(hN:N<=180)(hs:p.s=0)(hk:p.k≠6/\p.k≠7/\p.k≠8):∃ r a',PrF (N+1) a' b/\∀ (q q':SpI) (gx:Nat) (id:Option Value),
  Av.Spec prog GL 11 [ptr gx,K9 p id] (C8 gx q.g q'.g [97] [98] q q' a b) λu m=>∃ t t':SpI,u=d9 r/\m=C8 gx t.g t'.g [97] [98] t t' a' b:=by
 obtain⟨bA,wA,dA,hA⟩:=h.ha;obtain⟨M,bB,wB,dB,hB,hM⟩:=h.hb;obtain⟨r,a',b1,w1,d1,hg,hS⟩:=a9D (p:=p) hA hB h.ho hN hM hk hs;exact⟨r,a',⟨⟨b1,w1,d1,hg⟩,⟨M,bB,wB,dB,hB,hM⟩,h.ho⟩,hS⟩
structure FunQ (c:ChX):Prop where
 g:CG c
 s:(F9 (j3 c) iK).n+(F9 (j3 c) lZ).n=(F9 (j3 c) wD).n
 l:1000<=(F9 (j3 c) wD).n
 u:(F9 (j3 c) wD).n<=1000000
theorem PrF.q {N:Nat}{a b:SpX}(h:PrF N a b)(hN:N<=180):FunQ a.c:=by
 obtain⟨bA,wA,dA,hA⟩:=h.ha;have hbi:=hA.g.l.bi;have u:=hA.f.u;refine⟨hA.g.cg dc,?_,?_,?_⟩ <;> rw[hA.st]
 ·exact hA.f.s
 ·exact hA.f.l
 omega
theorem a9Y:gO w9 wD=F4 1000:=by kernel_rfl
theorem a4w {n:Int}(hn:400<=n/\n<=4096):∃ a0 b0 a1 b1 a2 b2 a3 b3 a4 b4 a5 b5,NewOk n a0 b0 a1 b1 a2 b2 a3 b3 a4 b4 a5 b5/\PrF 10 a5 b5:=by
 obtain⟨a0,b0,a1,b1,a2,b2,a3,b3,a4,b4,a5,b5,hN,bA,bB,lA,lB,sA,sB,A,B,hl,hs,hlA,hlB,nA,nB⟩:=JU (n:=n) hn;obtain⟨_,g2,g3,_,g5⟩:=A.gn;have g6:gO (Dm [97] bA) wD=F4 1000:=by rw[A.o _ dc dc dc,a9Y]
 have w2:=yA g2 dc;have w3:=yA g3 dc;have w5:=yA g5 dc;have w6:=yA g6 dc;refine⟨a0,b0,a1,b1,a2,b2,a3,b3,a4,b4,a5,b5,hN,⟨_,_,_,A.L.spg ⟨A.b.1,om⟩,⟨wN A.L.ro.bg,by rw[w2,w3,w6],by rw[w6];exact Nat.le_refl _,by rw[w6];omega,w5,by rw[show yB [97] bA=[] from A.ev];simp⟩,sm⟩,⟨10,_,_,_,B.L.spg ⟨B.b.1,om⟩,dc⟩,?_,?_,?_⟩
 ·rw[B.L.evs];exact B.ev
 ·rw[B.L.c];exact Ox _ bB rfl B.ev
 rw[B.L.hl];omega
end Go.Proofs.Z
