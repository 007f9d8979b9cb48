/- A region that draws its order: the law. No program is named. -/
import Derived.Test.YtlkkekpcofjbeaaGreatDoorA11
namespace Av
open Go Go.RowKit Tw
section lists
variable {α:Type}
theorem setF_append:∀ {F:List Nat} {D A B:List α},(∀ q ∈ F,q < A.length)->setF (A++B) F D=setF A F D++B
 | [],D,A,B,_=>by cases D <;> rfl
 | q::F,[],A,B,_=>rfl
 | q::F,p::D,A,B,h=>by
  rw [setF,setF,List.set_append_left _ _ (h q (by simp)),setF_append (fun r hr=>by simpa using h r (by simp [hr]))]
theorem setF_comm {F F':List Nat}{D D' X:List α}{lo lo':Nat}(hr:rises lo F=true)(hr':rises lo' F'=true)(hl:F.length=D.length)(hl':F'.length=D'.length)(hF:∀ q ∈ F,q < X.length)(hF':∀ q ∈ F',q < X.length)(hd:∀ q ∈ F,q ∉ F') :
  setF (setF X F D) F' D'=setF (setF X F' D') F D:=by
 apply List.ext_getElem?
 intro q
 by_cases h1:q ∈ F
 ·rw [setF_other (hd q h1)]
  exact setF_at hr hl h1 (hF q h1) (by rw [setF_len];exact hF q h1)
 ·rw [setF_other (F:=F) (T:=setF X F' D') h1]
  by_cases h2:q ∈ F'
  ·exact setF_at hr' hl' h2 (by rw [setF_len];exact hF' q h2) (hF' q h2)
  ·rw [setF_other h2,setF_other h1,setF_other h2]
end lists
theorem take_snoc {α:Type}{l:List α}{k:Nat}{r:α}(h:l[k]?=some r):l.take (k + 1)=l.take k++[r]:=by
 obtain⟨hlt,rfl⟩:=List.getElem?_eq_some_iff.1 h
 rw [List.take_succ_eq_append_getElem hlt]
structure RecOK (m:List Piece)(rs:List Rec)(j:Nat)(r:Rec):Prop where
 get:getF (txt (rs.take j) m) r.F=some r.C
 len:r.D.length=r.C.length
 rise:rises 0 r.F=true
 read:r.wr=false->r.D=r.C
 nofr:r.fresh=false->r.N=[]
 fr:r.fresh=true->r.wr=true
theorem RecOK.fd {m:List Piece}{rs:List Rec}{j:Nat}{r:Rec}(h:RecOK m rs j r):r.F.length=r.D.length:=by rw [h.len];exact (getF_some h.get).1
theorem txt_snoc {m:List Piece}{rs:List Rec}{r:Rec}:txt (rs++[r]) m=appR r (txt rs m):=by
 unfold txt
 rw [cur_snoc]
 rfl
section
variable {m:List Piece} {rs:List Rec} {L L':Nat->Bool}
theorem cur_upto (hrs:∀ (j:Nat) (r:Rec),rs[j]?=some r->RecOK m rs j r){q j:Nat}(h1:∀ (k:Nat) (r:Rec),rs[k]?=some r->k < j->(r.fresh=true->L k=true)/\(r.wr=true->q ∈ r.F->L k=true)) :
  ∀ k,k<=j->k<=rs.length->(cur L 0 (rs.take k) m).length=(txt (rs.take k) m).length/\(cur L 0 (rs.take k) m)[q]?=(txt (rs.take k) m)[q]?
 | 0,_,_=>by simp [cur]
 | k + 1,hj,hk=>by
  obtain⟨g1,g2⟩:=cur_upto hrs h1 k (by omega) (by omega)
  have hr:rs[k]?=some rs[k]:=by simp
  have hok:=hrs k _ hr
  obtain⟨e1,e2⟩:=h1 k _ hr (by omega)
  rw [take_snoc hr,cur_snoc,txt_snoc]
  have hlen:(rs.take k).length=k:=by simp;omega
  simp only [hlen,Nat.zero_add]
  generalize rs[k]=r at hok e1 e2
  have hF:=(getF_some hok.get).2
  generalize hX:cur L 0 (rs.take k) m=X at g1 g2 ⊢
  generalize hY:txt (rs.take k) m=Y at g1 g2 hF ⊢
  unfold appR
  cases hL:L k with
  | true=>
   simp only [cond_true]
   cases hw:r.wr with
   | false=>exact⟨g1,g2⟩
   | true=>
    simp only [cond_true]
    refine⟨by simp [setF_len,g1],?_⟩
    rcases Nat.lt_or_ge q Y.length with hq|hq
    ·rw [List.getElem?_append_left (by rw [setF_len,g1];exact hq),List.getElem?_append_left (by rw [setF_len];exact hq)]
     by_cases hqF:q ∈ r.F
     ·exact setF_at hok.rise hok.fd hqF (by omega) hq
     ·rw [setF_other hqF,setF_other hqF,g2]
    ·rw [List.getElem?_append_right (by rw [setF_len,g1];exact hq),List.getElem?_append_right (by rw [setF_len];exact hq),setF_len,setF_len,g1]
  | false=>
   simp only [cond_false]
   have hfr:r.fresh=false:=by
    cases h:r.fresh with
    | false=>rfl
    | true=>rw [e1 h] at hL;cases hL
   cases hw:r.wr with
   | false=>exact⟨g1,g2⟩
   | true=>
    simp only [cond_true,hok.nofr hfr,List.append_nil]
    refine⟨by rw [setF_len,g1],?_⟩
    rw [setF_other (fun hqF=>by rw [e2 hw hqF] at hL;cases hL),g2]
theorem cur_from {q j:Nat}(h2:∀ (k:Nat) (r:Rec),rs[k]?=some r->j<=k->L k=true->r.wr=true->q ∉ r.F)(hq:q < (cur L 0 (rs.take j) m).length) :
  ∀ d,j + d<=rs.length->q < (cur L 0 (rs.take (j + d)) m).length/\(cur L 0 (rs.take (j + d)) m)[q]?=(cur L 0 (rs.take j) m)[q]?
 | 0,_=>⟨hq,rfl⟩
 | d + 1,hd=>by
  obtain⟨g1,g2⟩:=cur_from h2 hq d (by omega)
  have hr:rs[j + d]?=some rs[j + d]:=by simp
  have e:=h2 (j + d) _ hr (by omega)
  rw [show j + (d + 1)=j + d + 1 by omega,take_snoc hr,cur_snoc]
  have hlen:(rs.take (j + d)).length=j + d:=by simp;omega
  simp only [hlen,Nat.zero_add]
  generalize rs[j + d]=r at e
  unfold appR
  cases hL:L (j + d) with
  | false=>exact⟨g1,g2⟩
  | true=>
   cases hw:r.wr with
   | false=>exact⟨g1,g2⟩
   | true=>
    simp only [cond_true]
    refine⟨by simp only [List.length_append,setF_len];omega,?_⟩
    rw [List.getElem?_append_left (by rw [setF_len];exact g1),setF_other (e hL hw),g2]
theorem cur_at (hrs:∀ (j:Nat) (r:Rec),rs[j]?=some r->RecOK m rs j r){q j:Nat}(hj:j<=rs.length)(h1:∀ (k:Nat) (r:Rec),rs[k]?=some r->k < j->(r.fresh=true->L k=true)/\(r.wr=true->q ∈ r.F->L k=true))
  (h2:∀ (k:Nat) (r:Rec),rs[k]?=some r->j<=k->L k=true->r.wr=true->q ∉ r.F) (hq:q < (txt (rs.take j) m).length):(cur L 0 rs m)[q]?=(txt (rs.take j) m)[q]?:=by
 obtain⟨g1,g2⟩:=cur_upto hrs h1 j (Nat.le_refl _) hj
 obtain⟨_,g4⟩:=cur_from h2 (by rw [g1];exact hq) (rs.length - j) (by omega)
 rw [show j + (rs.length - j)=rs.length by omega,List.take_length] at g4
 rw [g4,g2]
theorem cur_len (hrs:∀ (j:Nat) (r:Rec),rs[j]?=some r->RecOK m rs j r)(h1:∀ (k:Nat) (r:Rec),rs[k]?=some r->r.fresh=true->L k=true):∀ k,k<=rs.length->(cur L 0 (rs.take k) m).length=(txt (rs.take k) m).length
 | 0,_=>by simp [cur]
 | k + 1,hk=>by
  have g1:=cur_len hrs h1 k (by omega)
  have hr:rs[k]?=some rs[k]:=by simp
  have hok:=hrs k _ hr
  have e1:=h1 k _ hr
  rw [take_snoc hr,cur_snoc,txt_snoc]
  have hlen:(rs.take k).length=k:=by simp;omega
  simp only [hlen,Nat.zero_add]
  generalize rs[k]=r at hok e1
  unfold appR
  cases hL:L k with
  | true=>
   simp only [cond_true]
   cases hw:r.wr with
   | false=>exact g1
   | true=>simp [setF_len,g1]
  | false=>
   simp only [cond_false]
   have hfr:r.fresh=false:=by
    cases h:r.fresh with
    | false=>rfl
    | true=>rw [e1 h] at hL;cases hL
   cases hw:r.wr with
   | false=>exact g1
   | true=>simp [setF_len,g1,hok.nofr hfr]
theorem cur_do (hrs:∀ (j:Nat) (r:Rec),rs[j]?=some r->RecOK m rs j r)(hfr:∀ (k:Nat) (r:Rec),rs[k]?=some r->r.fresh=true->L k=true){j:Nat}{r:Rec}(hj:rs[j]?=some r)(hn:r.fresh=false)(h0:L j=false)(hL:∀ k,k≠j->L' k=L k)(hj':L' j=true)
  (h2:∀ (k:Nat) (r':Rec),rs[k]?=some r'->j < k->L k=true->r'.wr=true->∀ q ∈ r.F,q ∉ r'.F):∀ d,j + 1 + d<=rs.length->cur L' 0 (rs.take (j + 1 + d)) m=bif r.wr then setF (cur L 0 (rs.take (j + 1 + d)) m) r.F r.D else cur L 0 (rs.take (j + 1 + d)) m
 | 0,hd=>by
  have hlen:(rs.take j).length=j:=by simp;omega
  rw [Nat.add_zero,take_snoc hj,cur_snoc,cur_snoc,hlen,Nat.zero_add,h0,hj']
  simp only [cond_true,cond_false]
  rw [cur_congr (L:=L') (L':=L) (fun k _ hk=>hL k (by rw [hlen] at hk;omega))]
  unfold appR
  rw [(hrs j r hj).nofr hn,List.append_nil]
 | d + 1,hd=>by
  have ih:=cur_do hrs hfr hj hn h0 hL hj' h2 d (by omega)
  have hr:rs[j + 1 + d]?=some rs[j + 1 + d]:=by simp
  have e:=h2 (j + 1 + d) _ hr (by omega)
  have hok:=hrs _ _ hr
  have hokj:=hrs _ _ hj
  have hlen:(rs.take (j + 1 + d)).length=j + 1 + d:=by simp;omega
  have hcl:=cur_len hrs hfr (j + 1 + d) (by omega)
  rw [show j + 1 + (d + 1)=j + 1 + d + 1 by omega,take_snoc hr,cur_snoc,cur_snoc,hlen,Nat.zero_add,hL _ (by omega),ih]
  have hF':=(getF_some hok.get).2
  rw [<- hcl] at hF'
  generalize rs[j + 1 + d]=r' at e hok hF'
  have hFj:∀ q ∈ r.F,q < (cur L 0 (rs.take (j + 1 + d)) m).length:=fun q hq=>by
   have h1:=(getF_some hokj.get).2 q hq
   rw [<- cur_len hrs hfr j (by omega)] at h1
   have:∀ d,j + d<=rs.length->(cur L 0 (rs.take j) m).length<=(cur L 0 (rs.take (j + d)) m).length:=by
    intro d
    induction d with
    | zero=>intro _;exact Nat.le_refl _
    | succ d ih=>
     intro hd
     have hr:rs[j + d]?=some rs[j + d]:=by simp
     have hlen:(rs.take (j + d)).length=j + d:=by simp;omega
     rw [show j + (d + 1)=j + d + 1 by omega,take_snoc hr,cur_snoc,hlen,Nat.zero_add]
     refine Nat.le_trans (ih (by omega)) ?_
     unfold appR
     cases L (j + d)
     ·exact Nat.le_refl _
     ·cases rs[j + d].wr
      ·exact Nat.le_refl _
      ·simp [setF_len]
   have:=this (1 + d) (by omega)
   rw [show j + (1 + d)=j + 1 + d by omega] at this
   omega
  generalize cur L 0 (rs.take (j + 1 + d)) m=X at hF' hFj ⊢
  unfold appR
  cases hLk:L (j + 1 + d) with
  | false=>rfl
  | true=>
   simp only [cond_true]
   cases hw':r'.wr with
   | false=>rfl
   | true=>
    cases hw:r.wr with
    | false=>rfl
    | true=>
     simp only [cond_true]
     have hd':=e hLk hw'
     rw [setF_append (A:=setF X r'.F r'.D) (fun q hq=>by rw [setF_len];exact hFj q hq)]
     rw [setF_comm hokj.rise hok.rise hokj.fd hok.fd hFj hF' hd']
end
def tenv:List Oper->List Rec->Env->Env
 | o::os,r::rs,e=>tenv os rs (putE o r.x e)
 | _,_,e=>e
theorem tenv_snoc {o:Oper}{r:Rec}:∀ {os:List Oper} {rs:List Rec} {e:Env},os.length=rs.length->tenv (os++[o]) (rs++[r]) e=putE o r.x (tenv os rs e)
 | [],[],e,_=>rfl
 | [],_::_,_,h=>by simp at h
 | _::_,[],_,h=>by simp at h
 | o'::os,r'::rs,e,h=>by
  rw [List.cons_append,List.cons_append,tenv,tenv,tenv_snoc (by simpa using h)]
theorem putE_lk {o:Oper}{x:AV}{e:Env}{t:Nat}{v:AV}(h:lk (putE o x e) t=some v):(o.dst=some t/\v=x)\/(lk e t=some v/\o.dst≠some t):=by
 unfold putE at h
 cases hd:o.dst with
 | none=>rw [hd] at h;exact .inr ⟨h,by simp⟩
 | some d=>
  rw [hd] at h
  unfold lk at h
  by_cases hdt:d=t
  ·subst hdt
   simp at h
   exact .inl ⟨rfl,h.symm⟩
  ·simp [beq_ff hdt] at h
   exact .inr ⟨h,by simpa using hdt⟩
theorem tenv_lk:∀ {os:List Oper} {rs:List Rec} {e:Env} {t:Nat} {v:AV},os.length=rs.length->lk (tenv os rs e) t=some v ->
  (∃ (j:Nat) (o:Oper) (r:Rec),os[j]?=some o/\rs[j]?=some r/\o.dst=some t/\v=r.x)\/(lk e t=some v/\∀ (j:Nat) (o:Oper),os[j]?=some o->o.dst≠some t)
 | [],_,e,t,v,_,h=>.inr ⟨by cases ‹List Rec› <;> exact h,by simp⟩
 | o::os,[],e,t,v,hl,h=>by simp at hl
 | o::os,r::rs,e,t,v,hl,h=>by
  rw [tenv] at h
  rcases tenv_lk (by simpa using hl) h with⟨j,o',r',h1,h2,h3,h4⟩|⟨h1,h2⟩
  ·exact .inl ⟨j + 1,o',r',by simpa using h1,by simpa using h2,h3,h4⟩
  ·rcases putE_lk h1 with⟨h3,h4⟩|⟨h3,h4⟩
   ·exact .inl ⟨0,o,r,rfl,rfl,h3,h4⟩
   ·refine .inr ⟨h3,fun j o' hj=>?_⟩
    cases j with
    | zero=>
     simp at hj
     subst hj
     exact h4
    | succ j=>exact h2 j o' (by simpa using hj)
theorem pick_lk {E:Env}:∀ {ts:List Nat} {t:Nat} {v:AV},lk (pick E ts) t=some v->t ∈ ts/\lk E t=some v
 | [],t,v,h=>by simp [pick,lk] at h
 | u::ts,t,v,h=>by
  unfold pick at h
  split at h
  ·rename_i x hx
   unfold lk at h
   by_cases hut:u=t
   ·subst hut
    simp at h
    exact⟨by simp,by rw [hx,h]⟩
   ·simp [beq_ff hut] at h
    obtain⟨h1,h2⟩:=pick_lk h
    exact⟨by simp [h1],h2⟩
  ·obtain⟨h1,h2⟩:=pick_lk h
   exact⟨by simp [h1],h2⟩
section
variable {P:Program} {N:Nat} {Q:Exit->Act->World->Prop} {e:Env} {s:Base} {m:List Piece} {gl:List (Nat × AV)} {l:List Oper}
structure Know (P:Program)(N:Nat)(gl:List (Nat × AV))(l:List Oper)(e:Env)(m:List Piece)(rs:List Rec):Prop where
 le:rs.length<=l.length
 ok:∀ (j:Nat) (r:Rec),rs[j]?=some r->RecOK m rs j r
 conf:∀ (i j:Nat) (r r':Rec),i < j->rs[i]?=some r'->rs[j]?=some r->meets r.F r'.F r.wr r'.wr=true->reach l 2 j i=true
 op:∀ (j:Nat) (r:Rec) (o:Oper),rs[j]?=some r->l[j]?=some o->r.fresh=false->OpOK P N gl l o (pick (tenv (l.take j) (rs.take j) e) (looksN l o)) r.C r.D r.x
theorem Know.add {rs:List Rec}{r:Rec}{o:Oper}(h:Know P N gl l e m rs)(ho:l[rs.length]?=some o)(hok:RecOK m rs rs.length r)(hc:Av.conf l rs.length r.F r.wr 0 rs=true)
  (hop:r.fresh=false->OpOK P N gl l o (pick (tenv (l.take rs.length) rs e) (looksN l o)) r.C r.D r.x):Know P N gl l e m (rs++[r]):=by
 have hlt:rs.length < l.length:=(List.getElem?_eq_some_iff.1 ho).1
 have get:∀ {j:Nat} {r':Rec},(rs++[r])[j]?=some r'->(j < rs.length/\rs[j]?=some r')\/(j=rs.length/\r'=r):=fun {j r'} hj=>by
  rcases Nat.lt_or_ge j rs.length with hlt|hge
  ·rw [List.getElem?_append_left hlt] at hj
   exact .inl ⟨hlt,hj⟩
  ·rw [List.getElem?_append_right hge] at hj
   have:j - rs.length=0:=by
    rcases Nat.eq_zero_or_pos (j - rs.length) with h|h
    ·exact h
    ·rw [List.getElem?_eq_none (by simp;omega)] at hj;cases hj
   rw [this] at hj
   simp at hj
   exact .inr ⟨by omega,hj.symm⟩
 have take:∀ {j:Nat},j<=rs.length->(rs++[r]).take j=rs.take j:=fun hj=>List.take_append_of_le_length hj
 refine⟨by simp;omega,fun j r' hj=>?_,fun i j r1 r2 hij hi hj hm=>?_,fun j r' o' hj ho' hf=>?_⟩
 ·rcases get hj with⟨hlt,hj⟩|⟨rfl,rfl⟩
  ·have:=h.ok j r' hj
   exact⟨by rw [take (by omega)];exact this.get,this.len,this.rise,this.read,this.nofr,this.fr⟩
  ·exact⟨by rw [take (Nat.le_refl _),List.take_length];have:=hok.get;rwa [List.take_length] at this,hok.len,hok.rise,hok.read,hok.nofr,hok.fr⟩
 ·rcases get hj with⟨hlt,hj⟩|⟨rfl,rfl⟩
  ·rcases get hi with⟨_,hi⟩|⟨rfl,_⟩
   ·exact h.conf i j r1 r2 hij hi hj hm
   ·omega
  ·rcases get hi with⟨_,hi⟩|⟨rfl,_⟩
   ·have:=conf_spec hc i r2 hi hm
    rwa [Nat.zero_add] at this
   ·omega
 ·rcases get hj with⟨hlt,hj⟩|⟨rfl,rfl⟩
  ·rw [take (by omega)]
   exact h.op j r' o' hj ho' hf
  ·rw [ho] at ho'
   injection ho' with ho'
   subst ho'
   rw [take (Nat.le_refl _),List.take_length]
   exact hop hf
def Next (P:Program)(N:Nat)(Q:Exit->Act->World->Prop)(s:Base)(gl:List (Nat × AV))(l:List Oper)(e:Env)(m:List Piece)(rs:List Rec):Prop:=
 (rs.length=l.length/\AE N .normal Q s (tenv l rs e) (txt rs m)) \/
 (∃ o F C,l[rs.length]?=some o/\getF (txt rs m) F=some C/\rises 0 F=true/\confS l rs.length F true rs=true/\Lst P l rs.length /\
   ∀ s':Base,s'.gl=gl->AL P N l.toArray (Exit.then (fun a w=>∃ D N' x,D.length=C.length/\Got s' o (D++N') x a w/\Obl P N Q s gl l (l.drop (rs.length + 1)) (rs.length + 1) (setF (txt rs m) F D++N') (putE o x (tenv (l.take rs.length) rs e)) (rs++[⟨F,C,D,N',true,true,x⟩])) fun _ _ _=>False) s' [o] (pick (tenv (l.take rs.length) rs e) (looksN l o)) C) \/
 ∃ o d Ty z,l[rs.length]?=some o/\fltAt l rs.length=true/\o.op=.alloc Ty/\o.dst=some d/\Lst P l rs.length/\TyO P Ty z /\
   ∀ g,Obl P N Q s gl l (l.drop (rs.length + 1)) (rs.length + 1) (txt rs m++[.var g Ty z]) (putE o (ptr g) (tenv (l.take rs.length) rs e)) (rs++[⟨[],[],[],[.var g Ty z],true,true,ptr g⟩])
end
end Av
