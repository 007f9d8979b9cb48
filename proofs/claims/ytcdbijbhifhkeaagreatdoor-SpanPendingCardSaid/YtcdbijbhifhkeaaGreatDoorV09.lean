/- . -/
import Derived.Test.YtcdbijbhifhkeaaGreatDoorV08
namespace Av
open Go Go.RowKit Tw
section
variable {rs:List Rec}
section lists
variable {α:Type}
theorem Ik:∀ {F:List Nat} {D A B:List α},(∀ q∈F,q<A.length)->X9 (A++B) F D=X9 A F D++B
 | [],D,A,B,_=>by cases D <;> rfl
 | q::F,[],A,B,_=>rfl
 | q::F,p::D,A,B,h=>by
  rw[X9,X9,List.set_append_left _ _ (h q sm),Ik (λr hr=>by simpa using h r (by simp[hr]))]
theorem a2Q {F F':List Nat}{D D' X:List α}{lo lo':Nat}(hr:iE lo F=true)(hr':iE lo' F'=true)(hl:F.length=D.length)(hl':F'.length=D'.length)(hF:∀ q∈F,q<X.length)(hF':∀ q∈F',q<X.length)(hd:∀ q∈F,q ∉ F') :
  X9 (X9 X F D) F' D'=X9 (X9 X F' D') F D:=by
 apply List.ext_getElem?;intro q;by_cases h1:q∈F
 ·rw[vQ (hd q h1)];exact QQ hr hl h1 (hF q h1) (by rw[mU];exact hF q h1)
 rw[vQ (F:=F) (T:=X9 X F' D') h1];by_cases h2:q∈F'
 ·exact QQ hr' hl' h2 (by rw[mU];exact hF' q h2) (hF' q h2)
 rw[vQ h2,vQ h1,vQ h2]
end lists
theorem uB {α:Type}{l:List α}{k:Nat}{r:α}(h:l[k]?=some r):l.take (k+1)=l.take k++[r]:=by
 obtain⟨hlt,rfl⟩:=List.getElem?_eq_some_iff.1 h;rw[List.take_succ_eq_append_getElem hlt]
structure RecOK (m:List Piece)(rs:List Rec)(j:Nat)(r:Rec):Prop where
 get:dM (nU (rs.take j) m) r.F=some r.C
 len:r.D.length=r.C.length
 rise:iE 0 r.F=true
 read:r.wr=false->r.D=r.C
 nofr:r.fresh=false->r.N=[]
 fr:r.fresh=true->r.wr=true
theorem RecOK.fd {m:List Piece}{j:Nat}{r:Rec}(h:RecOK m rs j r):r.F.length=r.D.length:=by rw[h.len];exact(GH h.get).1
theorem IW {m:List Piece}{r:Rec}:nU (rs++[r]) m=xC r (nU rs m):=by
 unfold nU;rw[rV];rfl
section
variable {m:List Piece} {rs:List Rec} {L L':Nat->Bool}
theorem Wm (hrs:∀ (j:Nat) (r:Rec),rs[j]?=some r->RecOK m rs j r){q j:Nat}(h1:∀ (k:Nat) (r:Rec),rs[k]?=some r->k<j->(r.fresh=true->L k=true)/\(r.wr=true->q∈r.F->L k=true)) :
  ∀ k,k<=j->k<=rs.length->(D7 L 0 (rs.take k) m).length=(nU (rs.take k) m).length/\(D7 L 0 (rs.take k) m)[q]?=(nU (rs.take k) m)[q]?
 | 0,_,_=>by simp[D7]
 | k+1,hj,hk=>by
  obtain⟨g1,g2⟩:=Wm hrs h1 k om om;have hr:rs[k]?=some rs[k]:=by simp
  have hok:=hrs k _ hr;obtain⟨e1,e2⟩:=h1 k _ hr om;rw[uB hr,rV,IW];have hlen:(rs.take k).length=k:=by simp;omega
  simp only[hlen,Nat.zero_add];generalize rs[k]=r at hok e1 e2;have hF:=(GH hok.get).2;generalize hX:D7 L 0 (rs.take k) m=X at g1 g2 ⊢;generalize hY:nU (rs.take k) m=Y at g1 g2 hF ⊢;unfold xC;cases hL:L k with
  | true=>
   simp only[cond_true];cases hw:r.wr with
   | false=>exact⟨g1,g2⟩
   | true=>
    simp only[cond_true];refine⟨by simp[mU,g1],?_⟩;rcases Nat.lt_or_ge q Y.length with hq|hq
    ·rw[List.getElem?_append_left (by rw[mU,g1];exact hq),List.getElem?_append_left (by rw[mU];exact hq)];by_cases hqF:q∈r.F
     ·exact QQ hok.rise hok.fd hqF om hq
     rw[vQ hqF,vQ hqF,g2]
    rw[List.getElem?_append_right (by rw[mU,g1];exact hq),List.getElem?_append_right (by rw[mU];exact hq),mU,mU,g1]
  | false=>
   simp only[cond_false];have hfr:r.fresh=false:=by
    cases h:r.fresh with
    | false=>rfl
    | true=>rw[e1 h] at hL;cases hL
   cases hw:r.wr with
   | false=>exact⟨g1,g2⟩
   | true=>
    simp only[cond_true,hok.nofr hfr,List.append_nil];refine⟨by rw[mU,g1],?_⟩;rw[vQ (λhqF=>by rw[e2 hw hqF] at hL;cases hL),g2]
theorem Wn {q j:Nat}(h2:∀ (k:Nat) (r:Rec),rs[k]?=some r->j<=k->L k=true->r.wr=true->q ∉ r.F)(hq:q<(D7 L 0 (rs.take j) m).length) :
  ∀ d,j+d<=rs.length->q<(D7 L 0 (rs.take (j+d)) m).length/\(D7 L 0 (rs.take (j+d)) m)[q]?=(D7 L 0 (rs.take j) m)[q]?
 | 0,_=>⟨hq,rfl⟩
 | d+1,hd=>by
  obtain⟨g1,g2⟩:=Wn h2 hq d om;have hr:rs[j+d]?=some rs[j+d]:=by simp
  have e:=h2 (j+d) _ hr om;rw[show j+(d+1)=j+d+1 by omega,uB hr,rV];have hlen:(rs.take (j+d)).length=j+d:=by simp;omega
  simp only[hlen,Nat.zero_add];generalize rs[j+d]=r at e;unfold xC;cases hL:L (j+d) with
  | false=>exact⟨g1,g2⟩
  | true=>
   cases hw:r.wr with
   | false=>exact⟨g1,g2⟩
   | true=>
    simp only[cond_true];refine⟨by simp only[List.length_append,mU];omega,?_⟩;rw[List.getElem?_append_left (by rw[mU];exact g1),vQ (e hL hw),g2]
theorem Wp (hrs:∀ (j:Nat) (r:Rec),rs[j]?=some r->RecOK m rs j r){q j:Nat}(hj:j<=rs.length)(h1:∀ (k:Nat) (r:Rec),rs[k]?=some r->k<j->(r.fresh=true->L k=true)/\(r.wr=true->q∈r.F->L k=true))
  (h2:∀ (k:Nat) (r:Rec),rs[k]?=some r->j<=k->L k=true->r.wr=true->q ∉ r.F) (hq:q<(nU (rs.take j) m).length):(D7 L 0 rs m)[q]?=(nU (rs.take j) m)[q]?:=by
 obtain⟨g1,g2⟩:=Wm hrs h1 j (Nat.le_refl _) hj;obtain⟨_,g4⟩:=Wn h2 (by rw[g1];exact hq) (rs.length-j) om;rw[show j+(rs.length-j)=rs.length by omega,List.take_length] at g4;rw[g4,g2]
theorem Ck (hrs:∀ (j:Nat) (r:Rec),rs[j]?=some r->RecOK m rs j r)(h1:∀ (k:Nat) (r:Rec),rs[k]?=some r->r.fresh=true->L k=true):∀ k,k<=rs.length->(D7 L 0 (rs.take k) m).length=(nU (rs.take k) m).length
 | 0,_=>by simp[D7]
 | k+1,hk=>by
  have g1:=Ck hrs h1 k om;have hr:rs[k]?=some rs[k]:=by simp
  have hok:=hrs k _ hr;have e1:=h1 k _ hr;rw[uB hr,rV,IW];have hlen:(rs.take k).length=k:=by simp;omega
  simp only[hlen,Nat.zero_add];generalize rs[k]=r at hok e1;unfold xC;cases hL:L k with
  | true=>
   simp only[cond_true];cases hw:r.wr with
   | false=>exact g1
   | true=>simp[mU,g1]
  | false=>
   simp only[cond_false];have hfr:r.fresh=false:=by
    cases h:r.fresh with
    | false=>rfl
    | true=>rw[e1 h] at hL;cases hL
   cases hw:r.wr with
   | false=>exact g1
   | true=>simp[mU,g1,hok.nofr hfr]
theorem Wo (hrs:∀ (j:Nat) (r:Rec),rs[j]?=some r->RecOK m rs j r)(hfr:∀ (k:Nat) (r:Rec),rs[k]?=some r->r.fresh=true->L k=true){j:Nat}{r:Rec}(hj:rs[j]?=some r)(hn:r.fresh=false)(h0:L j=false)(hL:∀ k,k≠j->L' k=L k)(hj':L' j=true)
  (h2:∀ (k:Nat) (r':Rec),rs[k]?=some r'->j<k->L k=true->r'.wr=true->∀ q∈r.F,q ∉ r'.F):∀ d,j+1+d<=rs.length->D7 L' 0 (rs.take (j+1+d)) m=bif r.wr then X9 (D7 L 0 (rs.take (j+1+d)) m) r.F r.D else D7 L 0 (rs.take (j+1+d)) m
 | 0,hd=>by
  have hlen:(rs.take j).length=j:=by simp;omega
  rw[Nat.add_zero,uB hj,rV,rV,hlen,Nat.zero_add,h0,hj'];simp only[cond_true,cond_false];rw[UJ (L:=L') (L':=L) (λk _ hk=>hL k (by rw[hlen] at hk;omega))];unfold xC;rw[(hrs j r hj).nofr hn,List.append_nil]
 | d+1,hd=>by
  have ih:=Wo hrs hfr hj hn h0 hL hj' h2 d om;have hr:rs[j+1+d]?=some rs[j+1+d]:=by simp
  have e:=h2 (j+1+d) _ hr om;have hok:=hrs _ _ hr;have hokj:=hrs _ _ hj;have hlen:(rs.take (j+1+d)).length=j+1+d:=by simp;omega
  have hcl:=Ck hrs hfr (j+1+d) om;rw[show j+1+(d+1)=j+1+d+1 by omega,uB hr,rV,rV,hlen,Nat.zero_add,hL _ om,ih];have hF':=(GH hok.get).2;rw[<- hcl] at hF';generalize rs[j+1+d]=r' at e hok hF';have hFj:∀ q∈r.F,q<(D7 L 0 (rs.take (j+1+d)) m).length:=λq hq=>by
   have h1:=(GH hokj.get).2 q hq;rw[<- Ck hrs hfr j om] at h1;have:∀ d,j+d<=rs.length->(D7 L 0 (rs.take j) m).length<=(D7 L 0 (rs.take (j+d)) m).length:=by
    intro d
    induction d with
    | zero=>intro _;exact Nat.le_refl _
    | succ d ih=>
     intro hd;have hr:rs[j+d]?=some rs[j+d]:=by simp
     have hlen:(rs.take (j+d)).length=j+d:=by simp;omega
     rw[show j+(d+1)=j+d+1 by omega,uB hr,rV,hlen,Nat.zero_add];refine Nat.le_trans (ih om) ?_;unfold xC;cases L (j+d)
     ·exact Nat.le_refl _
     cases rs[j+d].wr
     ·exact Nat.le_refl _
     simp[mU]
   have:=this (1+d) om;rw[show j+(1+d)=j+1+d by omega] at this;omega
  generalize D7 L 0 (rs.take (j+1+d)) m=X at hF' hFj ⊢;unfold xC;cases hLk:L (j+1+d) with
  | false=>rfl
  | true=>
   simp only[cond_true];cases hw':r'.wr with
   | false=>rfl
   | true=>
    cases hw:r.wr with
    | false=>rfl
    | true=>
     simp only[cond_true];have hd':=e hLk hw';rw[Ik (A:=X9 X r'.F r'.D) (λq hq=>by rw[mU];exact hFj q hq)];rw[a2Q hokj.rise hok.rise hokj.fd hok.fd hFj hF' hd']
end
def nV:List Oper->List Rec->Env->Env
 | o::os,r::rs,e=>nV os rs (Q0 o r.x e)
 | _,_,e=>e
theorem MO {o:Oper}{r:Rec}:∀ {os:List Oper} {rs:List Rec} {e:Env},os.length=rs.length->nV (os++[o]) (rs++[r]) e=Q0 o r.x (nV os rs e)
 | [],[],e,_=>rfl
 | [],_::_,_,h=>by simp at h
 | _::_,[],_,h=>by simp at h
 | o'::os,r'::rs,e,h=>by
  rw[List.cons_append,List.cons_append,nV,nV,MO (by simpa using h)]
theorem a4r {o:Oper}{x:AV}{e:Env}{t:Nat}{v:AV}(h:lk (Q0 o x e) t=some v):(o.dst=some t/\v=x)\/(lk e t=some v/\o.dst≠some t):=by
 unfold Q0 at h;cases hd:o.dst with
 | none=>rw[hd] at h;exact .inr ⟨h,sm⟩
 | some d=>
  rw[hd] at h;unfold lk at h;by_cases hdt:d=t
  ·subst hdt;simp at h;exact .inl ⟨rfl,h.symm⟩
  simp[qN hdt] at h;exact .inr ⟨h,by simpa using hdt⟩
theorem WJ:∀ {os:List Oper} {rs:List Rec} {e:Env} {t:Nat} {v:AV},os.length=rs.length->lk (nV os rs e) t=some v ->
  (∃ (j:Nat) (o:Oper) (r:Rec),os[j]?=some o/\rs[j]?=some r/\o.dst=some t/\v=r.x)\/(lk e t=some v/\∀ (j:Nat) (o:Oper),os[j]?=some o->o.dst≠some t)
 | [],_,e,t,v,_,h=>.inr ⟨by cases ‹List Rec› <;> exact h,sm⟩
 | o::os,[],e,t,v,hl,h=>by simp at hl
 | o::os,r::rs,e,t,v,hl,h=>by
  rw[nV] at h;rcases WJ (by simpa using hl) h with⟨j,o',r',h1,h2,h3,h4⟩|⟨h1,h2⟩
  ·exact .inl ⟨j+1,o',r',by simpa using h1,by simpa using h2,h3,h4⟩
  rcases a4r h1 with⟨h3,h4⟩|⟨h3,h4⟩
  ·exact .inl ⟨0,o,r,rfl,rfl,h3,h4⟩
  refine .inr ⟨h3,λj o' hj=>?_⟩;cases j with
  | zero=>
   simp at hj;subst hj;exact h4
  | succ j=>exact h2 j o' (by simpa using hj)
theorem YL {E:Env}:∀ {ts:List Nat} {t:Nat} {v:AV},lk (pick E ts) t=some v->t∈ts/\lk E t=some v
 | [],t,v,h=>by simp[pick,lk] at h
 | u::ts,t,v,h=>by
  unfold pick at h;split at h
  ·rename_i x hx;unfold lk at h;by_cases hut:u=t
   ·subst hut;simp at h;exact⟨sm,by rw[hx,h]⟩
   simp[qN hut] at h;obtain⟨h1,h2⟩:=YL h;exact⟨by simp[h1],h2⟩
  obtain⟨h1,h2⟩:=YL h;exact⟨by simp[h1],h2⟩
section
variable {P:Program} {N:Nat} {Q:Exit->Act->World->Prop} {e:Env} {s:Base} {m:List Piece} {gl:List (Nat × AV)} {l:List Oper}
structure Know (P:Program)(N:Nat)(gl:List (Nat × AV))(l:List Oper)(e:Env)(m:List Piece)(rs:List Rec):Prop where
 le:rs.length<=l.length
 ok:∀ (j:Nat) (r:Rec),rs[j]?=some r->RecOK m rs j r
 conf:∀ (i j:Nat) (r r':Rec),i<j->rs[i]?=some r'->rs[j]?=some r->meets r.F r'.F r.wr r'.wr=true->kJ l 2 j i=true
 op:∀ (j:Nat) (r:Rec) (o:Oper),rs[j]?=some r->l[j]?=some o->r.fresh=false->OpOK P N gl l o (pick (nV (l.take j) (rs.take j) e) (rJ l o)) r.C r.D r.x
theorem Know.add {r:Rec}{o:Oper}(h:Know P N gl l e m rs)(ho:l[rs.length]?=some o)(hok:RecOK m rs rs.length r)(hc:Av.conf l rs.length r.F r.wr 0 rs=true)
  (hop:r.fresh=false->OpOK P N gl l o (pick (nV (l.take rs.length) rs e) (rJ l o)) r.C r.D r.x):Know P N gl l e m (rs++[r]):=by
 have hlt:rs.length<l.length:=(List.getElem?_eq_some_iff.1 ho).1;have get:∀ {j:Nat} {r':Rec},(rs++[r])[j]?=some r'->(j<rs.length/\rs[j]?=some r')\/(j=rs.length/\r'=r):=fun {j r'} hj=>by
  rcases Nat.lt_or_ge j rs.length with hlt|hge
  ·rw[List.getElem?_append_left hlt] at hj;exact .inl ⟨hlt,hj⟩
  rw[List.getElem?_append_right hge] at hj;have:j-rs.length=0:=by
   rcases Nat.eq_zero_or_pos (j-rs.length) with h|h
   ·exact h
   rw[List.getElem?_eq_none (by simp;omega)] at hj;cases hj
  rw[this] at hj;simp at hj;exact .inr ⟨om,hj.symm⟩
 have take:∀ {j:Nat},j<=rs.length->(rs++[r]).take j=rs.take j:=λhj=>List.take_append_of_le_length hj;refine⟨by simp;omega,λj r' hj=>?_,λi j r1 r2 hij hi hj hm=>?_,λj r' o' hj ho' hf=>?_⟩
 ·rcases get hj with⟨hlt,hj⟩|⟨rfl,rfl⟩
  ·have:=h.ok j r' hj;exact⟨by rw[take om];exact this.get,this.len,this.rise,this.read,this.nofr,this.fr⟩
  exact⟨by rw[take (Nat.le_refl _),List.take_length];have:=hok.get;rwa [List.take_length] at this,hok.len,hok.rise,hok.read,hok.nofr,hok.fr⟩
 ·rcases get hj with⟨hlt,hj⟩|⟨rfl,rfl⟩
  ·rcases get hi with⟨_,hi⟩|⟨rfl,_⟩
   ·exact h.conf i j r1 r2 hij hi hj hm
   omega
  rcases get hi with⟨_,hi⟩|⟨rfl,_⟩
  ·have:=Cs hc i r2 hi hm
   rwa [Nat.zero_add] at this
  omega
 rcases get hj with⟨hlt,hj⟩|⟨rfl,rfl⟩
 ·rw[take om];exact h.op j r' o' hj ho' hf
 rw[ho] at ho';injection ho' with ho'
 subst ho';rw[take (Nat.le_refl _),List.take_length];exact hop hf
def Next (P:Program)(N:Nat)(Q:Exit->Act->World->Prop)(s:Base)(gl:List (Nat × AV))(l:List Oper)(e:Env)(m:List Piece)(rs:List Rec):Prop:=
 (rs.length=l.length/\AE N .normal Q s (nV l rs e) (nU rs m)) \/
 (∃ o F C,l[rs.length]?=some o/\dM (nU rs m) F=some C/\iE 0 F=true/\wP l rs.length F true rs=true/\Lst P l rs.length /\
   ∀ s':Base,s'.gl=gl->AL P N l.toArray (Exit.then (λa w=>∃ D N' x,D.length=C.length/\Got s' o (D++N') x a w/\Obl P N Q s gl l (l.drop (rs.length+1)) (rs.length+1) (X9 (nU rs m) F D++N') (Q0 o x (nV (l.take rs.length) rs e)) (rs++[⟨F,C,D,N',true,true,x⟩])) λ_ _ _=>False) s' [o] (pick (nV (l.take rs.length) rs e) (rJ l o)) C) \/
 ∃ o d Ty z,l[rs.length]?=some o/\uZ l rs.length=true/\o.op=.alloc Ty/\o.dst=some d/\Lst P l rs.length/\TyO P Ty z /\
   ∀ g,Obl P N Q s gl l (l.drop (rs.length+1)) (rs.length+1) (nU rs m++[.var g Ty z]) (Q0 o (ptr g) (nV (l.take rs.length) rs e)) (rs++[⟨[],[],[],[.var g Ty z],true,true,ptr g⟩])
end
end
end Av
