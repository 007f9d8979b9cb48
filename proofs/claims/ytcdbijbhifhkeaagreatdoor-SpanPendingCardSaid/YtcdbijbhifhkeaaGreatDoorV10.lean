/- . -/
import Derived.Test.YtcdbijbhifhkeaaGreatDoorV09
namespace Av
open Go Go.RowKit Tw
section
variable {w:World}{a:Act}{o:Oper}{z:AV}{i j:Nat}{listed:Array Bool}{rs:List Rec}
section
variable {P:Program} {N:Nat} {Q:Exit->Act->World->Prop} {e:Env} {s:Base} {m:List Piece} {gl:List (Nat × AV)} {l:List Oper}
theorem NH {l:List Oper}{listed:Array Bool}{i:Nat}(hsz:listed.size=l.length)(hb:∀ i o,l[i]?=some o->∀ x∈o.after,Region.binds .any x=true->x.on<i)(hi:i∈Region.ready .any l.toArray listed)(hin:i<l.length)(hcl:∀ k j,k<l.length->listed.getD k true=true->yD l k j=true->listed.getD j true=true):∀ {n j:Nat},kJ l n i j=true->listed.getD j true=true
 | 0,j,h=>by
  have:=Ch hi h;rcases Nat.lt_or_ge j listed.size with hj|hj
  ·rwa [EI hj true false]
  simp[Array.getD,Nat.not_lt.2 hj]
 | n+1,j,h=>by
  unfold kJ at h;rw[Bool.or_eq_true] at h;rcases h with h|h
  ·exact NH hsz hb hi hin hcl (n:=0) h
  obtain⟨k,hk,hk2⟩:=List.any_eq_true.1 h;simp only[Bool.and_eq_true] at hk2;have hki:k<i:=by simpa using hk
  have h1:=NH hsz hb hi hin hcl (n:=0) hk2.1;exact RL hsz hcl om h1 hk2.2
theorem Ou {K':Act->World->Prop}(h:LetsOut (Exit.then K' λ_ _ _=>False)):False:=by
 obtain⟨a,w,h⟩:=h;exact h
theorem a1i {K K':Act->World->Prop}(h:o.wp P a w K (Exit.then K' λ_ _ _=>False)):o.wp P a w K Q:=by
 unfold Oper.wp at *;generalize hr:(execOp a.eval o).run P w=r at *;cases r with
 | ok n w'=>
  cases n <;> simp only[Oper.upon] at h ⊢
  case enter f args=>exact Calls.mono h (λx w'' hx=>by cases x <;> first|exact hx|exact(Ou hx).elim|exact hx.elim)
  all_goals first|exact h|exact h.elim
 | halt x w'=>cases x <;> simp only[Oper.upon] at h ⊢ <;> first|exact h|exact h.elim
theorem YC {d:Option Nat}{v:Value}{t:Nat}(h:d≠some t):(a.put d v).tmps.getD t undef=a.tmps.getD t undef:=by
 cases d with
 | none=>simp[Act.put]
 | some d=>
  have:d≠t:=by simpa using h
  simp[Act.put,Array.getD_eq_getD_getElem?,Array.getElem?_setIfInBounds_ne this]
theorem a4g {d:Option Nat}{v:Value}:(a.put d v).tmps.size=a.tmps.size:=by
 cases d <;> simp[Act.put]
theorem Xz {ok:Ok}{w:World}{f:AV->Option (List Value)}:∀ {ps:List AV} {cs c:List Value},qL (ps.map f)=some cs->RCs ok w ps c->(∀ p∈ps,∀ a b,f p=some a->RC ok w p b->b=a)->c=cs
 | [],cs,c,h,hr,_=>by
  simp[qL] at h;rw[RCs] at hr;rw[hr,h]
 | p::ps,cs,c,h,hr,hf=>by
  rw[List.map_cons] at h;rw[RCs] at hr;obtain⟨c1,c2,rfl,h1,h2⟩:=hr;cases hp:f p with
  | none=>simp[hp,qL] at h
  | some a=>
   cases hq:qL (ps.map f) with
   | none=>simp[hp,qL,hq] at h
   | some b=>
    simp[hp,qL,hq] at h;rw[<- h,hf p sm a c1 hp h1,Xz hq h2 λq hq=>hf q (by simp[hq])]
theorem Xv {ok:Ok}{w:World}:∀ {f:Nat} {a:AV} {cs c:List Value},eG f a=some cs->RC ok w a c->c=cs
 | 0,a,cs,c,h,_=>by simp[eG] at h
 | f+1,.lit v,cs,c,h,hr=>by
  rw[RC] at hr;unfold eG at h;simp[hr.2] at h;rw[hr.1,h]
 | f+1,.agg n ps,cs,c,h,hr=>by
  rw[RC] at hr;unfold eG at h;cases hc:qL (ps.map (eG f)) with
  | none=>simp[hc] at h
  | some b=>
   simp only[hc] at h;cases hb:Nat.beq b.length n with
   | false=>simp[hb] at h
   | true=>
    simp[hb] at h;rw[<- h];exact Xz hc hr.2 λp _ a b h1 h2=>Xv h1 h2
 | f+1,.sl ..,cs,c,h,_=>by simp[eG] at h
 | f+1,.pd ..,cs,c,h,_=>by simp[eG] at h
 | f+1,.tup ..,cs,c,h,_=>by simp[eG] at h
theorem TyO.imp {T:TypeId}{z':AV}(t:TyO P T z)(t':TyO P T z'):ImpC z z':=λok w c h=>by
 obtain⟨v,cs,h1,h2,_,h3⟩:=t.run w;obtain⟨v',cs',g1,g2,_,g3⟩:=t'.run w;have e:v=v':=by
  rw[h1] at g1;injection g1
 subst e;rw[Xv h3 h,<- h2,g2];exact HY g3
abbrev Xt:Type:=Nat × Nat × TypeId × AV
variable {xs:List Xt}
def xp (x:Xt):Piece:=.var x.2.1 x.2.2.1 x.2.2.2
structure Xok (P:Program)(l:List Oper)(listed:Array Bool)(a:Act)(n:Nat)(x:Xt):Prop where
 le:n<=x.1
 ls:listed.getD x.1 false=true
 fl:uZ l x.1=true
 op:∃ o d,l[x.1]?=some o/\o.op=.alloc x.2.2.1/\o.dst=some d/\a.tmps.getD d undef=.pointer (some ⟨x.2.1,0,none⟩)
 ty:TyO P x.2.2.1 x.2.2.2
structure Inv (P:Program)(N:Nat)(s:Base)(l:List Oper)(e:Env)(m:List Piece)(rs:List Rec)(xs:List Xt)(listed:Array Bool)(a:Act)(ok:Ok)(w:World):Prop where
 sz:listed.size=l.length
 cl:∀ k j,k<l.length->listed.getD k true=true->yD l k j=true->listed.getD j true=true
 hi:∀ j,rs.length<=j->listed.getD j false=true->∃ x∈xs,x.1=j
 fr:∀ (j:Nat) (r:Rec),rs[j]?=some r->r.fresh=true->listed.getD j false=true
 tm:a.tmps.size=N
 df:a.defers=[]
 vals:∀ (j:Nat) (r:Rec) (o:Oper) (d:Nat),rs[j]?=some r->l[j]?=some o->listed.getD j false=true->o.dst=some d->RV ok w r.x (a.tmps.getD d undef)
 base:∀ (t:Nat) (v:AV),lk e t=some v->(∀ (j:Nat) (o:Oper),l[j]?=some o->listed.getD j false=true->o.dst≠some t)->RV ok w v (a.tmps.getD t undef)
 xok:∀ x∈xs,Xok P l listed a rs.length x
 xnd:(xs.map (·.1)).Nodup
 st:St s ok (D7 (λj=>listed.getD j false) 0 rs m++xs.map xp) w
theorem BJ {n:Nat}(hsz:listed.size=n)(hj:j<n){b:Bool}(h:listed.getD j true=b):listed.getD j false=b:=by rw[EI om false true];exact h
theorem wI (hi:i<listed.size):(listed.setIfInBounds i true).getD j false=if i=j then true else listed.getD j false:=by
 by_cases h:i=j
 ·subst h;simp[Array.getD,hi]
 simp[Array.getD_eq_getD_getElem?,Array.getElem?_setIfInBounds_ne h,h]
theorem Inv.look {ok:Ok}(hc:ChkR N l)(_hK:Know P N gl l e m rs)(hI:Inv P N s l e m rs xs listed a ok w)(hi:i∈Region.ready .any l.toArray listed)(ho:l[i]?=some o)(hir:i<=rs.length) :
  Sat N ok w (pick (nV (l.take i) (rs.take i) e) (rJ l o)) a:=by
 have hin:i<l.length:=(List.getElem?_eq_some_iff.1 ho).1;have hi0:listed.getD i false=false:=BJ hI.sz hin (mem_ready.1 hi).1;have hreach:∀ {j:Nat},kJ l 2 i j=true->j<l.length->listed.getD j false=true:=λh hj=>BJ hI.sz hj (NH hI.sz hc.back hi hin hI.cl h);have hlen:(l.take i).length=(rs.take i).length:=by simp;omega
 refine⟨hI.tm,hI.df,λt v ht=>?_⟩;obtain⟨h1,h2⟩:=YL ht;rcases WJ hlen h2 with⟨j,o',r,h3,h4,h5,rfl⟩|⟨h3,h4⟩
 ·have hj:j<i:=by have:=(List.getElem?_eq_some_iff.1 h3).1;simp at this;omega
  rw[List.getElem?_take_of_lt hj] at h3 h4;have:=(hc.looks i j o o' t ho h3 h5 h1 om).1 hj;exact hI.vals j r o' t h4 h3 (hreach this om) h5
 refine hI.base t v h3 λj o' hj hl hd=>?_;have hjl:j<l.length:=(List.getElem?_eq_some_iff.1 hj).1;rcases Nat.lt_trichotomy j i with hlt|rfl|hgt
 ·exact h4 j o' (by rw[List.getElem?_take_of_lt hlt];exact hj) hd
 ·rw[hi0] at hl;cases hl
 have:=(hc.looks i j o o' t ho hj hd h1 om).2 hgt;have hl':listed.getD j true=true:=by rw[EI (by have:=hI.sz;omega) true false];exact hl
 have:=RL hI.sz hI.cl hjl hl' this;rw[(mem_ready.1 hi).1] at this;cases this
theorem WW {K next:Act->World->Prop}(ho:l[i]?=some o)(h:wpList P l.toArray (Exit.then K λ_ _ _=>False) [o] a w)
  (hn:∀ a' w',K a' w'->((∃ v,a'=a.put o.dst v)\/a'.defers≠[])->next a' w'):wpOp P l.toArray Q i next a w:=by
 unfold wpList at h;simp only[wpOp,List.getElem?_toArray,ho];split
 ·rename_i hw;simp only[hw,if_true] at h;rcases h with h|⟨h1,h2⟩
  ·left
   have:=a1h h;exact Oper.wp_mono (λa' w' h=>hn a' w' h.1 h.2) (a1i this)
  exact(Ou h2).elim
 rename_i hw;simp only[hw] at h;exact hn _ _ h (.inl ⟨_,rfl⟩)
theorem zK {r r':Rec}(h:(rs++[r])[j]?=some r'):(j<rs.length/\rs[j]?=some r')\/(j=rs.length/\r'=r):=by
 rcases Nat.lt_or_ge j rs.length with hlt|hge
 ·rw[List.getElem?_append_left hlt] at h;exact .inl ⟨hlt,h⟩
 rw[List.getElem?_append_right hge] at h;have:j-rs.length=0:=by
  rcases Nat.eq_zero_or_pos (j-rs.length) with h0|h0
  ·exact h0
  rw[List.getElem?_eq_none (by simp;omega)] at h;cases h
 rw[this] at h;simp at h;exact .inr ⟨om,h.symm⟩
theorem Inv.grow {ok:Ok}{r:Rec}(hI:Inv P N s l e m rs xs listed a ok w)(hl:listed.getD rs.length false=false)(hr:r.fresh=false):Inv P N s l e m (rs++[r]) xs listed a ok w:=by
 refine⟨hI.sz,hI.cl,λj hj=>hI.hi j (by simp at hj;omega),λj r' hj hf=>?_,hI.tm,hI.df,λj r' o d hj ho hlj=>?_,hI.base,λx hx=>?_,hI.xnd,?_⟩
 ·rcases zK hj with⟨_,h⟩|⟨rfl,rfl⟩
  ·exact hI.fr j r' h hf
  rw[hr] at hf;cases hf
 ·rcases zK hj with⟨_,h⟩|⟨rfl,rfl⟩
  ·exact hI.vals j r' o d h ho hlj
  rw[hl] at hlj;cases hlj
 ·have h:=hI.xok x hx;refine⟨?_,h.ls,h.fl,h.op,h.ty⟩;have h1:=h.le;have h2:x.1≠rs.length:=λhe=>by
   have:=h.ls;rw[he,hl] at this;cases this
  simp;omega
 rw[rV,Nat.zero_add];simp only[hl,cond_false];exact hI.st
theorem Inv.eat {pre post:List Xt}{x:Xt}{ok:Ok}(hI:Inv P N s l e m rs (pre++x::post) listed a ok w)(hx:x.1=rs.length)(t:TyO P x.2.2.1 z) :
  Inv P N s l e m (rs++[⟨[],[],[],[.var x.2.1 x.2.2.1 z],true,true,ptr x.2.1⟩]) (pre++post) listed a ok w:=by
 have hX:=hI.xok x sm;have hls:listed.getD rs.length false=true:=hx ▸ hX.ls;have hnd:=hI.xnd;rw[List.map_append,List.map_cons,List.perm_middle.nodup_iff,List.nodup_cons,<- List.map_append] at hnd;refine⟨hI.sz,hI.cl,λj hj hl=>?_,λj r' hj hf=>?_,hI.tm,hI.df,λj r' o d hj ho hlj hd=>?_,hI.base,λy hy=>?_,hnd.2,?_⟩
 ·simp at hj;obtain⟨y,hy,hyj⟩:=hI.hi j om hl;refine⟨y,?_,hyj⟩;rcases List.mem_append.1 hy with h|h
  ·exact List.mem_append.2 (.inl h)
  rcases List.mem_cons.1 h with rfl|h
  ·omega
  exact List.mem_append.2 (.inr h)
 ·rcases zK hj with⟨_,h⟩|⟨rfl,rfl⟩
  ·exact hI.fr j r' h hf
  exact hls
 ·rcases zK hj with⟨_,h⟩|⟨rfl,rfl⟩
  ·exact hI.vals j r' o d h ho hlj hd
  obtain⟨o',d',h1,h2,h3,h4⟩:=hX.op;rw[hx,ho] at h1;injection h1 with h1
  subst h1;rw[hd] at h3;injection h3 with h3
  subst h3;rw[h4];exact RVl rfl
 ·have h:=hI.xok y (by
   rcases List.mem_append.1 hy with h|h
   ·exact List.mem_append.2 (.inl h)
   exact List.mem_append.2 (.inr (List.mem_cons_of_mem _ h)))
  refine⟨?_,h.ls,h.fl,h.op,h.ty⟩;have h1:=h.le;have h2:y.1≠rs.length:=λhe=>hnd.1 (by
   rw[hx,<- he];exact List.mem_map_of_mem hy)
  simp;omega
 have hS:=hI.st;rw[List.map_append,List.map_cons,<- laa] at hS;have hS:=hS.asVar (hX.ty.imp t);refine hS.perm ?_;rw[rV,Nat.zero_add];simp only[hls,cond_true,xC,X9];rw[List.map_append,laa,laa];refine List.Perm.append_left _ ?_;rw[List.singleton_append];exact List.perm_middle.symm
theorem settle {listed:Array Bool}{a:Act}{ok:Ok}{w:World}:∀ (n:Nat) {rs:List Rec} {xs:List Xt},l.length-rs.length<=n->Know P N gl l e m rs->Obl P N Q s gl l (l.drop rs.length) rs.length (nU rs m) (nV (l.take rs.length) rs e) rs->Inv P N s l e m rs xs listed a ok w->((rs.all λr=>!r.fresh)=true->xs=[]) ->
  ∃ rs' xs',Know P N gl l e m rs'/\Next P N Q s gl l e m rs'/\Inv P N s l e m rs' xs' listed a ok w/\∀ x∈xs',x.1≠rs'.length
 | n,rs,xs,hn,hK,hO,hI,hx=>by
  rcases Nat.lt_or_ge rs.length l.length with hlt|hge
  ·have ho:l[rs.length]?=some l[rs.length]:=sm
   rw[List.drop_eq_getElem_cons hlt] at hO;have hno:∀ {F:List Nat} {wr:Bool},wP l rs.length F wr rs=true->∀ x∈xs,x.1≠rs.length:=fun {F wr} hc x hxm he=>by
    have h1:=(hI.xok x hxm).fl;rw[he] at h1;unfold wP at hc;rw[h1,bet] at hc;rw[hx (by simpa using hc.1)] at hxm;simp at hxm
   unfold Obl at hO;rcases hO with⟨F,C,D,x,wr,h1,h2,h3,h4,h5,h6,h7⟩|⟨F,C,h1,h2,h3,h4,h5⟩|⟨d,Ty,z,h1,h2,h3,h4,h5,h6⟩
   ·cases n with
    | zero=>omega
    | succ n=>
     have hq:listed.getD rs.length false=false:=by
      cases hq:listed.getD rs.length false with
      | false=>rfl
      | true=>
       obtain⟨x,hxm,he⟩:=hI.hi _ (Nat.le_refl _) hq;exact(hno h5 x hxm he).elim
     have hc:Av.conf l rs.length F wr 0 rs=true:=by
      unfold wP at h5;rw[bet] at h5;exact h5.2
     have hK':Know P N gl l e m (rs++[⟨F,C,D,[],wr,false,x⟩]):=hK.add ho ⟨by rw[List.take_length];exact h1,h2,h4,h3,λ_=>rfl,sm⟩ hc (λ_=>h6);have hl1:(rs++[(⟨F,C,D,[],wr,false,x⟩:Rec)]).length=rs.length+1:=by simp
     exact settle n om hK' (by
      rw[hl1,IW,uB ho,MO (by simp;omega)];exact h7) (hI.grow hq rfl) (λh=>hx (by
       rw[List.all_append,bet] at h;exact h.1))
   ·exact⟨rs,xs,hK,by unfold Next;exact .inr (.inl ⟨_,F,C,ho,h1,h2,h3,h4,h5⟩),hI,hno h3⟩
   by_cases hq:∃ x∈xs,x.1=rs.length
   ·obtain⟨x,hxm,he⟩:=hq;cases n with
    | zero=>omega
    | succ n=>
     obtain⟨pre,post,rfl⟩:=List.append_of_mem hxm;obtain⟨o',d',g1,g2,g3,g4⟩:=(hI.xok x hxm).op;rw[he,ho] at g1;injection g1 with g1
     rw[<- g1,h2] at g2;injection g2 with g2
     subst g2;have hI':=hI.eat he h5;have hK':Know P N gl l e m (rs++[⟨[],[],[],[.var x.2.1 x.2.2.1 z],true,true,ptr x.2.1⟩]):=hK.add ho ⟨rfl,rfl,rfl,sm,sm,λ_=>rfl⟩ (by
      have:∀ (qs:List Rec) (i:Nat),Av.conf l rs.length [] true i qs=true:=by
       intro qs
       induction qs with
       | nil=>intro i;rfl
       | cons q qs ih=>intro i;simp[Av.conf,meets,ih]
      exact this rs 0) sm
     exact settle n (by simp;omega) hK' (by
      rw[show (rs++[(⟨[],[],[],[.var x.2.1 x.2.2.1 z],true,true,ptr x.2.1⟩:Rec)]).length=rs.length+1 by simp,IW,uB ho,MO (by simp;omega)];exact h6 x.2.1) hI' (λh=>by simp at h)
   exact⟨rs,xs,hK,by unfold Next;exact .inr (.inr ⟨_,d,Ty,z,ho,h1,h2,h3,h4,h5,h6⟩),hI,λx hxm he=>hq ⟨x,hxm,he⟩⟩
  rw[List.drop_eq_nil_of_le hge] at hO;unfold Obl at hO;have:rs.length=l.length:=by have:=hK.le;omega
  rw[this,List.take_length] at hO;refine⟨rs,xs,hK,by unfold Next;exact .inl ⟨this,hO⟩,hI,λx hxm he=>?_⟩;obtain⟨o,d,h1,_⟩:=(hI.xok x hxm).op;have:=(List.getElem?_eq_some_iff.1 h1).1;omega
theorem Inv.next {rs':List Rec}{xs':List Xt}{a':Act}{ok ok':Ok}{w':World}(hc:ChkR N l)(hI:Inv P N s l e m rs xs listed a ok w)(hi:i∈Region.ready .any l.toArray listed)(ho:l[i]?=some o)
  (hput:∃ v,a'=a.put o.dst v) (hdf:a'.defers=[]) (hst:Stp ok w ok' w') (hx:∀ (r:Rec) (d:Nat),rs'[i]?=some r->o.dst=some d->RV ok' w' r.x (a'.tmps.getD d undef))
  (hold:∀ j,j≠i->listed.getD j false=true->∀ r,rs'[j]?=some r->rs[j]?=some r) (hfr:∀ (j:Nat) (r:Rec),rs'[j]?=some r->r.fresh=true->j=i\/listed.getD j false=true)
  (hhi:∀ j,rs'.length<=j->j=i\/listed.getD j false=true->∃ x∈xs',x.1=j)
  (hxo:∀ x∈xs',rs'.length<=x.1/\(x∈xs\/Xok P l (listed.setIfInBounds i true) a' rs'.length x)) (hnd:(xs'.map (·.1)).Nodup)
  (hS:St s ok' (D7 (λj=>(listed.setIfInBounds i true).getD j false) 0 rs' m++xs'.map xp) w'):Inv P N s l e m rs' xs' (listed.setIfInBounds i true) a' ok' w':=by
 obtain⟨v,rfl⟩:=hput;have hin:i<l.length:=(List.getElem?_eq_some_iff.1 ho).1;have his:i<listed.size:=by rw[hI.sz];exact hin
 have hi0:listed.getD i false=false:=BJ hI.sz hin (mem_ready.1 hi).1;refine⟨by simpa using hI.sz,λk j hk hkl hd=>?_,λj hj hl=>hhi j hj ?_,λj r' hj hf=>?_,by rw[a4g];exact hI.tm,hdf,λj r' o' d hj ho' hl hd=>?_,λt u ht hno=>?_,λx hxm=>?_,hnd,hS⟩
 ·rw[Tw.a7P his] at hkl ⊢;split
  ·rfl
  by_cases hik:i=k
  ·subst hik;have:=Ch hi hd;rcases Nat.lt_or_ge j listed.size with h|h
   ·rwa [EI h true false]
   simp[Array.getD,Nat.not_lt.2 h]
  rw[if_neg hik] at hkl;exact hI.cl k j hk hkl hd
 ·rw[wI his] at hl;by_cases hij:i=j
  ·exact .inl hij.symm
  rw[if_neg hij] at hl;exact .inr hl
 ·rw[wI his];rcases hfr j r' hj hf with rfl|h
  ·simp
  simp[h]
 ·rw[wI his] at hl;by_cases hij:i=j
  ·subst hij;rw[ho] at ho';injection ho' with ho'
   subst ho';exact hx r' d hj hd
  rw[if_neg hij] at hl;have hj:=hold j (Ne.symm hij) hl r' hj;rw[YC (λh=>hij (hc.nodup i j o o' d ho ho' h hd))];exact(hI.vals j r' o' d hj ho' hl hd).stp hst
 ·have hne:o.dst≠some t:=hno i o ho (by rw[wI his,if_pos rfl]);rw[YC hne];exact(hI.base t u ht λj o' hj hl=>hno j o' hj (by rw[wI his];split <;> first|rfl|exact hl)).stp hst
 obtain⟨hle,h|h⟩:=hxo x hxm
 ·have hX:=hI.xok x h;obtain⟨o',d',g1,g2,g3,g4⟩:=hX.op;have hne:i≠x.1:=λhe=>by
   have:=hX.ls;rw[<- he,hi0] at this;cases this
  refine⟨hle,by rw[wI his,if_neg hne];exact hX.ls,hX.fl,⟨o',d',g1,g2,g3,?_⟩,hX.ty⟩;rw[YC (λh=>hne (hc.nodup i x.1 o o' d' ho g1 h g3)),g4]
 exact h
theorem Jh {ok:Ok}{d:Nat}{Ty:TypeId}{next:Act->World->Prop}(_:s.gl=gl)(hc:ChkR N l)(hI:Inv P N s l e m rs xs listed a ok w)(ho:l[i]?=some o)(hf:uZ l i=true)(hop:o.op=.alloc Ty)(hd:o.dst=some d)(t:TyO P Ty z)
  (hn:∀ g a' ok' w',(∃ v,a'=a.put o.dst v)->a'.defers=[]->Stp ok w ok' w'->a'.tmps.getD d undef=.pointer (some ⟨g,0,none⟩)->St s ok' (.var g Ty z::(D7 (λj=>listed.getD j false) 0 rs m++xs.map xp)) w'->next a' w'):wpOp P l.toArray Q i next a w:=by
 have hgd:o.guard=none:=by
  unfold uZ at hf;simp[ho] at hf;exact hf.1.2.1
 have hdN:=hc.lt i o d ho hd;have hSt:=hI.st;rw[<- List.nil_append (D7 _ _ _ _++_)] at hSt;have hAL:AL P N l.toArray (Exit.then (λa' w'=>a'.defers=[]/\∃ g ok',St (X3 s.gl [] ok w) ok' [.var g Ty z] w'/\a'.tmps.getD d undef=.pointer (some ⟨g,0,none⟩)) λ_ _ _=>False) (X3 s.gl [] ok w) [o] [] []:=by
  obtain⟨dst,op,ty,pos,af,gd⟩:=o;simp only at hop hd hgd;subst hop;subst hd;subst hgd;refine Ey (λg=>j5 (AE.mk λok' w' a' hS ha=>?_)) (Nat.ble_eq_true_of_le hdN);refine⟨ha.defers,g,ok',hS,?_⟩;have:=ha.env d (ptr g) (by simp[lk]);exact RV0.lit this
 refine WW ho (hAL.run ok w a hSt.lend ⟨hI.tm,hI.df,λt v ht=>by simp[lk] at ht⟩) λa' w' hG hput=>?_;obtain⟨hdf,g,ok',hS',he⟩:=hG;rcases hput with hput|h
 ·exact hn g a' ok' w' hput hdf hS'.stp he (hSt.back hS')
 exact absurd hdf h
theorem MH (hg:s.gl=gl)(hc:ChkR N l):∀ (fuel:Nat) (rs:List Rec) (xs:List Xt) (listed:Array Bool) (a:Act) (ok:Ok) (w:World),Know P N gl l e m rs->Next P N Q s gl l e m rs->Inv P N s l e m rs xs listed a ok w->(∀ x∈xs,x.1≠rs.length)->left l.length listed<=fuel->wpAny P .any l.toArray Q fuel listed a w
 | fuel,rs,xs,listed,a,ok,w,hK,hN,hI,hX1,hf=>by
  have hsz:=hI.sz;have hq0:listed.getD rs.length false=false:=by
   cases hq:listed.getD rs.length false with
   | false=>rfl
   | true=>
    obtain⟨x,hxm,he⟩:=hI.hi _ (Nat.le_refl _) hq;exact(hX1 x hxm he).elim
  by_cases hall:∀ j,j<l.length->listed.getD j true=true
  ·have hnil:Region.ready .any l.toArray listed=[]:=by
    cases hr:Region.ready .any l.toArray listed with
    | nil=>rfl
    | cons i is=>
     have hi:i∈Region.ready .any l.toArray listed:=by rw[hr];simp
     obtain⟨h0,o,ho,_⟩:=mem_ready.1 hi;have hin:i<l.length:=by have:=(Array.getElem?_eq_some_iff.1 ho).1;simpa using this
     rw[hall i hin] at h0;cases h0
   have hn:Q .normal a w:=by
    rcases Nat.lt_or_ge rs.length l.length with hlt|hge
    ·rw[BJ hsz hlt (hall _ hlt)] at hq0;cases hq0
    unfold Next at hN;rcases hN with⟨hlen,hE⟩|⟨o,F,C,ho,_⟩|⟨o,d,Ty,z,ho,_⟩
    ·have hxs:xs=[]:=by
      cases xs with
      | nil=>rfl
      | cons x xs=>
       have hX:=hI.xok x sm;obtain⟨o,d,h1,_⟩:=hX.op;have:=(List.getElem?_eq_some_iff.1 h1).1;have:=hX.le;omega
     subst hxs;refine hE.run ok w a ?_ ⟨hI.tm,hI.df,λt v ht=>?_⟩
     ·rw[show nU rs m=D7 (λj=>listed.getD j false) 0 rs m from UJ λj _ hj=>(BJ hsz om (hall j om)).symm];simpa using hI.st
     rcases WJ om ht with⟨j,o,r,h1,h2,h3,rfl⟩|⟨h1,h2⟩
     ·have hj:j<l.length:=(List.getElem?_eq_some_iff.1 h1).1;exact hI.vals j r o t h2 h1 (BJ hsz hj (hall j hj)) h3
     exact hI.base t v h1 λj o hj _=>h2 j o hj
    ·have hlt:rs.length<l.length:=(List.getElem?_eq_some_iff.1 ho).1;omega
    have hlt:rs.length<l.length:=(List.getElem?_eq_some_iff.1 ho).1;omega
   cases fuel with
   | zero=>exact⟨hnil,hn⟩
   | succ fuel=>exact⟨λ_=>hn,λi hi=>by rw[hnil] at hi;simp at hi⟩
  have hex:∃ j,j<l.length/\listed.getD j true=false:=by
   obtain⟨j,hj⟩:=Classical.not_forall.1 hall;obtain⟨hj1,hj2⟩:=Classical.not_imp.1 hj;exact⟨j,hj1,by simpa using hj2⟩
  have hleast:∃ t,(t<l.length/\listed.getD t true=false)/\∀ i,i<t->listed.getD i true=true:=by
   obtain⟨j,hj⟩:=hex
   induction j using Nat.strongRecOn with
   | ind j ih=>
    by_cases h:∃ i,i<j/\listed.getD i true=false
    ·obtain⟨i,h1,h2⟩:=h;exact ih i h1 ⟨om,h2⟩
    exact⟨j,hj,λi hi=>by
     cases hh:listed.getD i true
     ·exact(h ⟨i,hi,hh⟩).elim
     rfl⟩
  obtain⟨t,⟨ht1,ht2⟩,ht3⟩:=hleast;have htr:t∈Region.ready .any l.toArray listed:=by
   refine mem_ready.2 ⟨ht2,l[t],sm,λx hx hb=>?_⟩;have hb1:=hc.back t l[t] (List.getElem?_eq_getElem om) x hx hb;rw[EI om false true];exact ht3 _ hb1
  have hpos:0<left l.length listed:=by
   unfold left;exact List.countP_pos_iff.2 ⟨t,by simp;omega,by rw[ht2];rfl⟩
  cases fuel with
  | zero=>omega
  | succ fuel=>
   refine⟨λhr=>(by rw[hr] at htr;simp at htr),λi hi=>?_⟩;obtain⟨hi0,o,hio,hdeps⟩:=mem_ready.1 hi;have hio:l[i]?=some o:=by simpa using hio
   have hin:i<l.length:=(List.getElem?_eq_some_iff.1 hio).1;have his:i<listed.size:=by omega
   have hi0':listed.getD i false=false:=BJ hsz hin hi0;have hleft:left l.length (listed.setIfInBounds i true)<=fuel:=by
    have:=a6t hsz hin hi0;omega
   have hreach:∀ {j:Nat},kJ l 2 i j=true->j<l.length->listed.getD j false=true:=λh hj=>BJ hsz hj (NH hsz hc.back hi hin hI.cl h);have hup:∀ {j:Nat},kJ l 2 j i=true->j<l.length->listed.getD j false=false:=fun {j} h hj=>by
    cases hh:listed.getD j false with
    | false=>rfl
    | true=>
     have hl':listed.getD j true=true:=by rw[EI om true false];exact hh
     have:=RL hsz hI.cl hj hl' h;rw[hi0] at this;cases this
   rcases Nat.lt_or_ge i rs.length with hlt|hge
   ·-- an operation that is known
    have hr:rs[i]?=some rs[i]:=sm
    generalize rs[i]=r at hr;have hok:=hK.ok i r hr;have hnf:r.fresh=false:=by
     cases h:r.fresh with
     | false=>rfl
     | true=>rw[hI.fr i r hr h] at hi0';cases hi0'
    have hop:=hK.op i r o hr hio hnf;have hS:=hI.look hc hK hi hio om;have hget:dM (D7 (λj=>listed.getD j false) 0 rs m) r.F=some r.C:=by
     rw[<- hok.get];refine Bc λq hq=>Wp hK.ok om (λk r' hk hki=>⟨hI.fr k r' hk,λhw hqk=>?_⟩) (λk r' hk hik hl hw hqk=>?_) ((GH hok.get).2 q hq)
     ·exact hreach (hK.conf k i r r' hki hk hr (TA hq hqk (.inr hw))) (by have:=hK.le;have:=(List.getElem?_eq_some_iff.1 hk).1;omega)
     rcases Nat.lt_or_ge i k with h|h
     ·have:=hup (hK.conf i k r' r h hr hk (TA hqk hq (.inl hw))) (by have:=hK.le;have:=(List.getElem?_eq_some_iff.1 hk).1;omega);rw[this] at hl;cases hl
     have:k=i:=by omega
     subst this;rw[hi0'] at hl;cases hl
    obtain⟨rest,hp1,hp2⟩:=SK hok.rise hget hok.len;have hSt:=hI.st.perm (show (r.C++(rest++xs.map xp)).Perm _ by
     rw[<- laa];exact(hp1.append_right _).symm)
    have hw:=(hop (X3 s.gl r.C ok w) hg).run ok w a hSt.lend hS;refine WW hio hw λa' w' hG hput=>?_;obtain⟨hdf,ok',hS',hx⟩:=hG;rcases hput with hput|h
    ·refine MH hg hc fuel rs xs _ a' ok' w' hK hN (hI.next hc hi hio hput hdf hS'.stp (λr' d hr' hd=>by
      rw[hr] at hr';injection hr' with hr'
      subst hr';exact hx d hd) (λ_ _ _ r' h=>h) (λj r' hj hf=>.inr (hI.fr j r' hj hf)) (λj hj h=>hI.hi j hj (by
       rcases h with h|h
       ·omega
       exact h)) (λx hxm=>⟨(hI.xok x hxm).le,.inl hxm⟩) hI.xnd ?_) hX1 hleft
     have hdo:=Wo (L:=λj=>listed.getD j false) (L':=λj=>(listed.setIfInBounds i true).getD j false) hK.ok (λk r' hk hf=>hI.fr k r' hk hf) hr hnf hi0' (λk hk=>by
      rw[wI his,if_neg (Ne.symm hk)]) (by rw[wI his,if_pos rfl]) (λk r' hk hik hl hw q hq hqk=>by
      have:=hup (hK.conf i k r' r hik hr hk (TA hqk hq (.inl hw))) (by have:=hK.le;have:=(List.getElem?_eq_some_iff.1 hk).1;omega);rw[this] at hl;cases hl) (rs.length-(i+1)) om
     rw[show i+1+(rs.length-(i+1))=rs.length by omega,List.take_length] at hdo;rw[hdo];have hback:=hSt.back hS';cases hwr:r.wr with
     | true=>
      simp only[cond_true];rw[<- laa] at hback;exact hback.perm (hp2.append_right _)
     | false=>
      simp only[cond_false];rw[hok.read hwr] at hback;rw[<- laa] at hback;exact hback.perm (hp1.append_right _)
    exact absurd hdf h
   -- one that is not known yet
   have hset:∀ (rs':List Rec),D7 (λj=>(listed.setIfInBounds i true).getD j false) 0 rs m=D7 (λj=>listed.getD j false) 0 rs m:=λ_=>UJ λj _ hj=>by
    rw[wI his,if_neg om]
   have early:i≠rs.length->Lst P l rs.length->wpOp P l.toArray Q i (λa w=>wpAny P .any l.toArray Q fuel (listed.setIfInBounds i true) a w) a w:=λhne hL=>by
    have hfl:uZ l i=true/\ZZ P l:=by
     rcases hL with hl|⟨hl,hZ⟩
     ·have hl:=List.all_eq_true.1 hl i (by simpa using hin);rw[Bool.or_eq_true] at hl;rcases hl with hl|hl
      ·have:=nlb hl;omega
      have:=hreach hl om;rw[hq0] at this;cases this
     have hl:=List.all_eq_true.1 hl i (by simpa using hin);rw[Bool.or_eq_true,Bool.or_eq_true] at hl;rcases hl with (hl|hl)|hl
     ·have:=nlb hl;omega
     ·have:=BJ hsz (by omega:rs.length<l.length) (NH hsz hc.back hi hin hI.cl hl);rw[hq0] at this;cases this
     exact⟨hl,hZ⟩
    obtain⟨hfl,hZ⟩:=hfl;have hop:∃ Ty,o.op=.alloc Ty:=by
     have h:=hfl;unfold uZ at h;simp only[hio,Option.map_some,Option.getD_some,Bool.and_eq_true] at h;have h:=h.1.1;split at h
     ·exact⟨_,by assumption⟩
     cases h
    obtain⟨Ty,hop⟩:=hop;obtain⟨z,t⟩:=hZ i o Ty hio hfl hop;cases hd:o.dst with
    | none=>
     have h:=hfl;unfold uZ at h;simp[hio,hd] at h
    | some d=>
     refine Jh hg hc hI hio hfl hop hd t λg a' ok' w' hput hdf hstp he hS=>?_;refine MH hg hc fuel rs ((i,g,Ty,z)::xs) _ a' ok' w' hK hN (hI.next hc hi hio hput hdf hstp (λr d hr=>?_) (λ_ _ _ r' h=>h) (λj r' hj hf=>.inr (hI.fr j r' hj hf)) (λj hj h=>?_) (λx hxm=>?_) ?_ ?_) (λx hxm=>?_) hleft
     ·rw[List.getElem?_eq_none om] at hr;cases hr
     ·rcases h with rfl|h
      ·exact⟨_,List.mem_cons_self,rfl⟩
      obtain⟨x,hxm,hxe⟩:=hI.hi j hj h;exact⟨x,List.mem_cons_of_mem _ hxm,hxe⟩
     ·rcases List.mem_cons.1 hxm with rfl|hxm
      ·exact⟨by simp;omega,.inr ⟨by simp;omega,by rw[wI his];simp,hfl,⟨o,d,hio,hop,hd,he⟩,t⟩⟩
      exact⟨(hI.xok x hxm).le,.inl hxm⟩
     ·rw[List.map_cons,List.nodup_cons];refine⟨λh=>?_,hI.xnd⟩;obtain⟨x,hxm,hxe⟩:=List.mem_map.1 h;have:=(hI.xok x hxm).ls;rw[hxe,hi0'] at this;cases this
     ·rw[hset rs,List.map_cons];exact hS.perm List.perm_middle
     rcases List.mem_cons.1 hxm with rfl|hxm
     ·exact hne
     exact hX1 x hxm
   unfold Next at hN;rcases hN with⟨hlen,_⟩|⟨o',F,C,ho',h1,h2,h3,h4,h5⟩|⟨o',d,Ty,z,ho',h1,h2,h3,h4,h5,h6⟩
   ·omega
   ·by_cases hipe:i=rs.length
    ·subst hipe;rw[hio] at ho';injection ho' with ho'
     subst ho';have hconf:conf l rs.length F true 0 rs=true:=by
      unfold wP at h3;rw[bet] at h3;exact h3.2
     have hS:=hI.look hc hK hi hio (Nat.le_refl _);rw[List.take_length] at hS;have hget:dM (D7 (λj=>listed.getD j false) 0 rs m) F=some C:=by
      rw[<- h1];refine Bc λq hq=>?_;have:=Wp (L:=λj=>listed.getD j false) (q:=q) (j:=rs.length) hK.ok (Nat.le_refl _) (λk r' hk hki=>⟨hI.fr k r' hk,λhw hqk=>?_⟩) (λk r' hk hik=>by rw[List.getElem?_eq_none hik] at hk;cases hk) (by rw[List.take_length];exact(GH h1).2 q hq)
      ·rwa [List.take_length] at this
      have:=Cs hconf k r' hk (TA hq hqk (.inr hw));rw[Nat.zero_add] at this;exact hreach this om
     have hw:=(h5 (X3 s.gl C ok w) hg).run ok w a;obtain⟨rest,hp1,_⟩:=SK (D:=C) h2 hget rfl;have hSt:=hI.st.perm (show (C++(rest++xs.map xp)).Perm _ by
      rw[<- laa];exact(hp1.append_right _).symm)
     refine WW hio (hw hSt.lend hS) λa' w' hG hput=>?_;obtain⟨D,N',x,hD,⟨hdf,ok',hS',hx⟩,hO⟩:=hG;rcases hput with hput|h
     ·have hok':RecOK m rs rs.length ⟨F,C,D,N',true,true,x⟩:=⟨by rw[List.take_length];exact h1,hD,h2,sm,sm,sm⟩;have hK':Know P N gl l e m (rs++[⟨F,C,D,N',true,true,x⟩]):=hK.add hio hok' hconf sm;have hl1:(rs++[(⟨F,C,D,N',true,true,x⟩:Rec)]).length=rs.length+1:=by simp
      have hI':Inv P N s l e m (rs++[⟨F,C,D,N',true,true,x⟩]) xs (listed.setIfInBounds rs.length true) a' ok' w':=by
       refine hI.next hc hi hio hput hdf hS'.stp (λr d hr hd=>?_) (λj hj hl r hr=>?_) (λj r hj hf=>?_) (λj hj h=>hI.hi j om ?_) (λx hxm=>⟨?_,.inl hxm⟩) hI.xnd ?_
       ·rcases zK hr with⟨hlt,_⟩|⟨_,rfl⟩
        ·omega
        exact hx d hd
       ·rcases zK hr with⟨_,hr⟩|⟨rfl,_⟩
        ·exact hr
        exact(hj rfl).elim
       ·rcases zK hj with⟨_,hj⟩|⟨rfl,_⟩
        ·exact .inr (hI.fr j r hj hf)
        exact .inl rfl
       ·rcases h with h|h
        ·omega
        exact h
       ·have:=(hI.xok x hxm).le;have:=hX1 x hxm;omega
       rw[rV,hset rs,Nat.zero_add,wI his,if_pos rfl];simp only[cond_true,xC];obtain⟨rest2,q1,q2⟩:=SK (D:=D) h2 hget hD;have hback:=hSt.back hS';have hpr:rest.Perm rest2:=(List.perm_append_left_iff C).1 (hp1.symm.trans q1);rw[<- laa] at hback;refine hback.perm (List.Perm.append_right _ ?_);refine(List.Perm.append_right N' q2).trans ?_;rw[laa,laa];exact List.Perm.append_left D (List.perm_append_comm.trans (List.Perm.append_left N' hpr.symm))
      obtain⟨rs',xs',g1,g2,g3,g4⟩:=settle (Q:=Q) l.length om hK' (by
       rw[hl1,IW,uB hio,MO (by simp;omega)];exact hO) hI' (λh=>by simp at h)
      exact MH hg hc fuel rs' xs' _ a' ok' w' g1 g2 g3 g4 hleft
     exact absurd hdf h
    exact early hipe h4
   by_cases hipe:i=rs.length
   ·subst hipe;rw[hio] at ho';injection ho' with ho'
    subst ho';refine Jh hg hc hI hio h1 h2 h3 h5 λg a' ok' w' hput hdf hstp he hS=>?_;have hK':Know P N gl l e m (rs++[⟨[],[],[],[.var g Ty z],true,true,ptr g⟩]):=hK.add hio ⟨rfl,rfl,rfl,sm,sm,λ_=>rfl⟩ (by
     have:∀ (qs:List Rec) (i:Nat),Av.conf l rs.length [] true i qs=true:=by
      intro qs
      induction qs with
      | nil=>intro i;rfl
      | cons q qs ih=>intro i;simp[Av.conf,meets,ih]
     exact this rs 0) sm
    have hl1:(rs++[(⟨[],[],[],[.var g Ty z],true,true,ptr g⟩:Rec)]).length=rs.length+1:=sm
    have hI':Inv P N s l e m (rs++[⟨[],[],[],[.var g Ty z],true,true,ptr g⟩]) xs (listed.setIfInBounds rs.length true) a' ok' w':=by
     refine hI.next hc hi hio hput hdf hstp (λr d' hr hd=>?_) (λj hj hl r hr=>?_) (λj r hj hf=>?_) (λj hj h=>hI.hi j om ?_) (λx hxm=>⟨?_,.inl hxm⟩) hI.xnd ?_
     ·rcases zK hr with⟨hlt,_⟩|⟨_,rfl⟩
      ·omega
      rw[h3] at hd;injection hd with hd
      subst hd;rw[he];exact RVl rfl
     ·rcases zK hr with⟨_,hr⟩|⟨rfl,_⟩
      ·exact hr
      exact(hj rfl).elim
     ·rcases zK hj with⟨_,hj⟩|⟨rfl,_⟩
      ·exact .inr (hI.fr j r hj hf)
      exact .inl rfl
     ·rcases h with h|h
      ·omega
      exact h
     ·have:=(hI.xok x hxm).le;have:=hX1 x hxm;omega
     rw[rV,hset rs,Nat.zero_add,wI his,if_pos rfl];simp only[cond_true,xC,X9];refine hS.perm ?_;rw[laa];exact List.perm_middle
    obtain⟨rs',xs',g1,g2,g3,g4⟩:=settle (Q:=Q) l.length om hK' (by
     rw[hl1,IW,uB hio,MO (by simp;omega)];exact h6 g) hI' (λh=>by simp at h)
    exact MH hg hc fuel rs' xs' _ a' ok' w' g1 g2 g3 g4 hleft
   exact early hipe h4
theorem Ej (hg:s.gl=gl)(hc:GY N l=true)(ho:Obl P N Q s gl l l 0 m e []){ok:Ok}(hS:St s ok m w)(ha:Sat N ok w e a):wpAny P .any l.toArray Q l.toArray.size (Array.replicate l.toArray.size false) a { w with drawn:=w.drawn+1 }:=by
 have e1:Ext w { w with drawn:=w.drawn+1 }:=Ext.drew w;have hK:Know P N gl l e m []:=⟨Nat.zero_le _,sm,sm,sm⟩;have hall:∀ j,(Array.replicate l.toArray.size false).getD j false=false:=λj=>by
  simp[Array.getD]
 have hI:Inv P N s l e m [] [] (Array.replicate l.toArray.size false) a ok { w with drawn:=w.drawn+1 }:=by
  refine⟨sm,λk j hk h=>?_,λj _ hl=>?_,λj r hj hf=>?_,ha.size,ha.defers,λj r o d hj ho' hl=>?_,λt v ht _=>(ha.env t v ht).stp (Ext.astp e1 ok),sm,sm,?_⟩
  ·rw[EI (by simpa using hk) true false,hall k] at h;cases h
  ·rw[hall j] at hl;cases hl
  ·simp at hj
  ·simp at hj
  simpa[D7] using hS.ext e1
 obtain⟨rs,xs,g1,g2,g3,g4⟩:=settle (P:=P) (Q:=Q) (s:=s) l.length sm hK (by simpa[D7,nV] using ho) hI (λ_=>rfl);refine MH hg (ChkR.of hc) _ rs xs _ a ok _ g1 g2 g3 g4 ?_;unfold left;exact Nat.le_trans List.countP_le_length sm
theorem b3S {id:Nat}(hm:P.follows .mixedOrders=true)(hg:s.gl=gl)(hc:GY N l=true)(ho:Obl P N Q s gl l l 0 m e []):AC P N (.region id l.toArray true) Q s e m:=AC.mk λ_ok _w _a hS ha=>wp_region_any hm (Ej hg hc ho hS ha)
end
end
end Av
