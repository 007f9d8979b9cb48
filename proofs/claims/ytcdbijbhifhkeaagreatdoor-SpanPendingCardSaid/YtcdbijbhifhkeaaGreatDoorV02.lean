/- . -/
import Derived.Test.YtcdbijbhifhkeaaGreatDoorV01
namespace Av
open Go Go.RowKit Tw
abbrev Ok:=Nat->Nat->Prop
inductive AV where
 | lit (v:Value)
 | agg (n:Nat) (ps:List AV)
 | sl (k:Nat) (xs:List AV) (id:Option Value)
 | pd (v:AV)
 | tup (vs:List AV)
 deriving Inhabited
def AV.size:AV->Nat
 | .agg n _=>n
 | _=>1
def AV.isAgg:AV->Bool
 | .agg _ _=>true
 | _=>false
def At (ok:Ok)(w:World)(b o:Nat)(es:List Value):Prop:=∀ j v,es[j]?=some v->w.cell? ⟨b,o+j,none⟩=some v/\ok b (o+j)
mutual
def RC (ok:Ok)(w:World):AV->List Value->Prop
 | .lit v,cs=>cs=[v]/\v.oneCell'=true
 | .agg n ps,cs=>cs.length=n/\RCs ok w ps cs
 | .sl k xs id,cs=>∃ A c,cs=[.slice A xs.length c]/\(∀ u,id=some u->u=.slice A xs.length c)/\xs.length<=c/\c<=maxLen /\
   (0<xs.length->∃ b o es,A=some ⟨b,o,none⟩/\es.length=xs.length*k/\At ok w b o es/\RCs ok w xs es)/\∀ x∈xs,x.size=k
 | .pd v,cs=>∃ b o es,cs=[.pointer (some ⟨b,o,none⟩)]/\At ok w b o es/\RC ok w v es
 | .tup _,_=>False
def RCs (ok:Ok)(w:World):List AV->List Value->Prop
 | [],cs=>cs=[]
 | p::ps,cs=>∃ c1 c2,cs=c1++c2/\RC ok w p c1/\RCs ok w ps c2
end
def RV0 (ok:Ok)(w:World)(a:AV)(v:Value):Prop:=RC ok w a v.cells.toList/\a.isAgg=xZ v
def RVs (ok:Ok)(w:World):List AV->List Value->Prop
 | [],vs=>vs=[]
 | a::as,vs=>∃ u us,vs=u::us/\RV0 ok w a u/\RVs ok w as us
def RV (ok:Ok)(w:World):AV->Value->Prop
 | .tup as,v=>∃ vs:List Value,v=.tuple vs.toArray/\RVs ok w as vs
 | a,v=>RV0 ok w a v
structure Stp (ok:Ok)(w:World)(ok':Ok)(w':World):Prop where
 size:w.heap.size<=w'.heap.size
 keep:∀ b j v,w.cell? ⟨b,j,none⟩=some v->ok b j->w'.cell? ⟨b,j,none⟩=some v/\ok' b j
theorem Stp.refl (ok:Ok)(w:World):Stp ok w ok w:=⟨Nat.le_refl _,λ_ _ _ h k=>⟨h,k⟩⟩
theorem Stp.trans {ok ok1 ok2:Ok}{w w1 w2:World}(h:Stp ok w ok1 w1)(k:Stp ok1 w1 ok2 w2):Stp ok w ok2 w2:=
 ⟨Nat.le_trans h.size k.size,λb j v h1 h2=>let ⟨a,c⟩:=h.keep b j v h1 h2;k.keep b j v a c⟩
theorem At.stp {ok ok':Ok}{w w':World}{b o:Nat}{es:List Value}(h:At ok w b o es)(e:Stp ok w ok' w'):At ok' w' b o es:=λj v hj=>let ⟨a,c⟩:=h j v hj;e.keep _ _ _ a c
section
variable {ok ok':Ok} {w w':World}
mutual
theorem RC.stp (e:Stp ok w ok' w'):∀ {a:AV} {cs:List Value},RC ok w a cs->RC ok' w' a cs
 | .lit v,cs,h=>by rw[RC] at h ⊢;exact h
 | .agg n ps,cs,h=>by rw[RC] at h ⊢;exact⟨h.1,RCs.stp e h.2⟩
 | .sl k xs id,cs,h=>by
  rw[RC] at h ⊢;obtain⟨A,c,h1,h2,h3,h4,h5,h6⟩:=h;exact⟨A,c,h1,h2,h3,h4,λhn=>let ⟨b,o,es,g1,g2,g3,g4⟩:=h5 hn;⟨b,o,es,g1,g2,g3.stp e,RCs.stp e g4⟩,h6⟩
 | .pd v,cs,h=>by
  rw[RC] at h ⊢;obtain⟨b,o,es,g1,g2,g3⟩:=h;exact⟨b,o,es,g1,g2.stp e,RC.stp e g3⟩
 | .tup _,cs,h=>by rw[RC] at h;exact h.elim
theorem RCs.stp (e:Stp ok w ok' w'):∀ {as:List AV} {cs:List Value},RCs ok w as cs->RCs ok' w' as cs
 | [],cs,h=>by rw[RCs] at h ⊢;exact h
 | a::as,cs,h=>by
  rw[RCs] at h ⊢;obtain⟨c1,c2,h1,h2,h3⟩:=h;exact⟨c1,c2,h1,RC.stp e h2,RCs.stp e h3⟩
end
theorem RV0.stp (e:Stp ok w ok' w'){a:AV}{v:Value}(h:RV0 ok w a v):RV0 ok' w' a v:=⟨h.1.stp e,h.2⟩
theorem RVs.stp (e:Stp ok w ok' w'):∀ {as:List AV} {vs:List Value},RVs ok w as vs->RVs ok' w' as vs
 | [],_,h=>h
 | _::_,_,⟨u,us,h1,h2,h3⟩=>⟨u,us,h1,h2.stp e,RVs.stp e h3⟩
theorem RV.stp (e:Stp ok w ok' w'){a:AV}{v:Value}(h:RV ok w a v):RV ok' w' a v:=by
 cases a <;> first|exact RV0.stp e h|skip
 obtain⟨vs,h1,h2⟩:=h;exact⟨vs,h1,h2.stp e⟩
theorem RC.len {a:AV}{cs:List Value}(h:RC ok w a cs):cs.length=a.size:=by
 cases a <;> rw[RC] at h
 ·rw[h.1];rfl
 ·exact h.1
 ·obtain⟨A,c,h1,_⟩:=h;rw[h1];rfl
 ·obtain⟨b,o,es,h1,_⟩:=h;rw[h1];rfl
 exact h.elim
mutual
theorem RC.one:∀ {a:AV} {cs:List Value},RC ok w a cs->∀ v∈cs,v.oneCell'=true
 | .lit v,cs,h=>by rw[RC] at h;obtain⟨rfl,h⟩:=h;simpa using h
 | .agg n ps,cs,h=>by rw[RC] at h;exact RCs.one h.2
 | .sl k xs id,cs,h=>by rw[RC] at h;obtain⟨A,c,rfl,_⟩:=h;simp[Value.oneCell']
 | .pd v,cs,h=>by rw[RC] at h;obtain⟨b,o,es,rfl,_⟩:=h;simp[Value.oneCell']
 | .tup _,cs,h=>by rw[RC] at h;exact h.elim
theorem RCs.one:∀ {as:List AV} {cs:List Value},RCs ok w as cs->∀ v∈cs,v.oneCell'=true
 | [],cs,h=>by rw[RCs] at h;subst h;simp
 | a::as,cs,h=>by
  rw[RCs] at h;obtain⟨c1,c2,rfl,h2,h3⟩:=h;intro v hv;rcases List.mem_append.1 hv with hv|hv
  ·exact RC.one h2 v hv
  exact RCs.one h3 v hv
end
theorem RCs.append:∀ {as bs:List AV} {c d:List Value},RCs ok w as c->RCs ok w bs d->RCs ok w (as++bs) (c++d)
 | [],bs,c,d,h,k=>by rw[RCs] at h;subst h;exact k
 | a::as,bs,c,d,h,k=>by
  rw[RCs] at h;obtain⟨c1,c2,rfl,h2,h3⟩:=h;rw[List.cons_append,RCs,laa];exact⟨c1,_,rfl,h2,RCs.append h3 k⟩
theorem RCs.split:∀ {as bs:List AV} {cs:List Value},RCs ok w (as++bs) cs->∃ c d,cs=c++d/\RCs ok w as c/\RCs ok w bs d
 | [],bs,cs,h=>⟨[],cs,rfl,by rw[RCs],h⟩
 | a::as,bs,cs,h=>by
  rw[List.cons_append,RCs] at h;obtain⟨c1,c2,rfl,h2,h3⟩:=h;obtain⟨c,d,rfl,g1,g2⟩:=RCs.split h3;exact⟨c1++c,d,sm,by rw[RCs];exact⟨c1,c,rfl,h2,g1⟩,g2⟩
theorem RCs.len {k:Nat}:∀ {as:List AV} {cs:List Value},RCs ok w as cs->(∀ a∈as,a.size=k)->cs.length=as.length*k
 | [],cs,h,_=>by rw[RCs] at h;subst h;simp
 | a::as,cs,h,hk=>by
  rw[RCs] at h;obtain⟨c1,c2,rfl,h2,h3⟩:=h;rw[List.length_append,h2.len,hk a sm,RCs.len h3 (λx hx=>hk x (by simp[hx])),List.length_cons,Nat.add_mul];omega
theorem RCs.at_ {k i:Nat}{as:List AV}{cs:List Value}(h:RCs ok w as cs)(hk:∀ a∈as,a.size=k)(hi:i<as.length):∃ x c y,cs=x++c++y/\x.length=i*k/\c.length=k/\RC ok w as[i] c:=by
 have he:as=as.take i++(as[i]::as.drop (i+1)):=by
  rw[<- List.drop_eq_getElem_cons hi,List.take_append_drop]
 rw[he] at h;obtain⟨x,d,rfl,h1,h2⟩:=h.split;rw[RCs] at h2;obtain⟨c,y,rfl,h3,_⟩:=h2;refine⟨x,c,y,sm,?_,by rw[h3.len,hk _ (List.getElem_mem hi)],h3⟩;rw[h1.len (λa ha=>hk a (List.mem_of_mem_take ha))];simp[Nat.min_eq_left (Nat.le_of_lt hi)]
theorem HV {v:Value}(h:xZ v=false):v.cells=#[v]:=by cases v <;> first|rfl|simp[xZ] at h
theorem VJ {v:Value}(h:xZ v=true):v=.agg v.cells:=by cases v <;> first|rfl|simp[xZ] at h
theorem Qy {v:Value}(h:v.oneCell'=true):xZ v=false:=by cases v <;> first|rfl|simp[Value.oneCell'] at h
theorem RV0.lit {u v:Value}(h:RV0 ok w (.lit u) v):v=u:=by
 obtain⟨h1,h2⟩:=h;rw[RC] at h1;have:=HV h2.symm;rw[this] at h1;simpa using h1.1
theorem RV.lit {u v:Value}(h:RV ok w (.lit u) v):v=u:=RV0.lit h
theorem RV0.of_lit {v:Value}(h:v.oneCell'=true):RV0 ok w (.lit v) v:=by
 have h1:=Qy h;refine⟨?_,h1.symm⟩;rw[RC,HV h1];exact⟨rfl,h⟩
theorem RV.of0 {a:AV}{v:Value}(h:RV0 ok w a v):RV ok w a v:=by
 cases a <;> first|exact h|skip
 exact(by have:=h.1;rw[RC] at this;exact this.elim)
theorem RV.to0 {a:AV}{v:Value}(h:RV ok w a v)(ha:∀ vs,a≠.tup vs):RV0 ok w a v:=by
 cases a <;> first|exact h|exact absurd rfl (ha _)
def mk (a:Bool)(cs:List Value):Value:=bif a then .agg cs.toArray else cs.headD undef
theorem RV0.mk {a:AV}{cs:List Value}(h:RC ok w a cs):RV0 ok w a (mk a.isAgg cs):=by
 cases a
 case agg n ps=>exact⟨h,rfl⟩
 case tup=>rw[RC] at h;exact h.elim
 all_goals
  have hl:=h.len;obtain⟨v,rfl⟩:=List.length_eq_one_iff.1 hl;have h1:=Qy (h.one v sm);refine⟨?_,h1.symm⟩;show RC ok w _ v.cells.toList;rw[HV h1];exact h
theorem RVs.ofLits:∀ {vs:List Value},(∀ v∈vs,v.oneCell'=true)->RVs ok w (vs.map .lit) vs
 | [],_=>rfl
 | v::vs,h=>⟨v,vs,rfl,RV0.of_lit (h v sm),RVs.ofLits λu hu=>h u (by simp[hu])⟩
theorem RVs.length:∀ {as:List AV} {vs:List Value},RVs ok w as vs->vs.length=as.length
 | [],_,h=>by rw[show _=[] from h];rfl
 | _::_,_,⟨_,_,h1,_,h3⟩=>by rw[h1];simp[RVs.length h3]
end
def wJ:List AV->Nat->Nat->Option (Nat × AV × Nat)
 | [],_,_=>none
 | p::ps,i,o=>bif Nat.ble p.size o then wJ ps (i+1) (o-p.size) else some (i,p,o)
def jT (a:Bool)(k:Nat):Nat->AV->Nat->Option AV
 | 0,_,_=>none
 | f+1,v,o=>bif Nat.beq o 0&&Nat.beq v.size k&&(v.isAgg == a) then some v else (match v with
  | .agg _ ps=>(match wJ ps 0 o with
   | some (_,p,o')=>jT a k f p o'
   | none=>none)
  | _=>none)
def uP (u:AV):Nat->AV->Nat->Option AV
 | 0,_,_=>none
 | f+1,v,o=>bif Nat.beq o 0&&Nat.beq v.size u.size&&(v.isAgg == u.isAgg) then some u else (match v with
  | .agg n ps=>(match wJ ps 0 o with
   | some (i,p,o')=>(match uP u f p o' with
    | some p'=>some (.agg n (ps.set i p'))
    | none=>none)
   | none=>none)
  | _=>none)
section
variable {ok:Ok} {w:World}
theorem Bq:∀ {ps:List AV} {i o j o':Nat} {p:AV} {cs:List Value},wJ ps i o=some (j,p,o')->RCs ok w ps cs ->
  ∃ x c y,cs=x++c++y/\x.length+o'=o/\RC ok w p c/\o'<p.size/\i<=j/\∀ p' c',RC ok w p' c'->RCs ok w (ps.set (j-i) p') (x++c'++y)
 | [],i,o,j,o',p,cs,h,_=>by simp[wJ] at h
 | q::ps,i,o,j,o',p,cs,h,hc=>by
  rw[RCs] at hc;obtain⟨c1,c2,rfl,h1,h2⟩:=hc;unfold wJ at h;cases hb:Nat.ble q.size o with
  | true=>
   simp only[hb,cond_true] at h;obtain⟨x,c,y,rfl,e1,e2,e3,e4,e5⟩:=Bq h h2;have hle:=nlb hb;refine⟨c1++x,c,y,sm,?_,e2,e3,om,λp' c' hp=>?_⟩
   ·rw[lla,h1.len];omega
   rw[show j-i=(j-(i+1))+1 by omega,List.set_cons_succ,RCs];exact⟨c1,_,sm,h1,e5 p' c' hp⟩
  | false=>
   simp only[hb,cond_false] at h;injection h with h
   injection h with ha h
   injection h with h3 h4
   subst ha h3 h4;have hlt:o<q.size:=by
    rcases Nat.lt_or_ge o q.size with h|h
    ·exact h
    rw[Nat.ble_eq_true_of_le h] at hb;cases hb
   refine⟨[],c1,c2,sm,sm,h1,hlt,Nat.le_refl _,λp' c' hp=>?_⟩;rw[Nat.sub_self,List.set_cons_zero,RCs];exact⟨c',c2,sm,hp,h2⟩
theorem EH {a:Bool}{k:Nat}:∀ {f:Nat} {v u:AV} {o:Nat} {cs:List Value},jT a k f v o=some u->RC ok w v cs ->
  ∃ x c y,cs=x++c++y/\x.length=o/\c.length=k/\RC ok w u c/\u.isAgg=a
 | 0,v,u,o,cs,h,_=>by simp[jT] at h
 | f+1,v,u,o,cs,h,hc=>by
  unfold jT at h;generalize hb:(Nat.beq o 0&&Nat.beq v.size k&&(v.isAgg == a))=b at h;cases b with
  | true=>
   simp only[Bool.and_eq_true,beq_iff_eq] at hb;obtain⟨⟨h1,h2⟩,h3⟩:=hb;have h1:=Nat.eq_of_beq_eq_true h1;have h2:=Nat.eq_of_beq_eq_true h2;simp only[cond_true] at h;injection h with h
   subst h h1;exact⟨[],cs,[],sm,rfl,by rw[hc.len,h2],hc,h3⟩
  | false=>
   simp only[cond_false] at h;split at h
   ·rename_i n ps;rw[RC] at hc;split at h
    ·rename_i j p o' hf;obtain⟨x,c,y,rfl,e1,e2,_,_,_⟩:=Bq hf hc.2;obtain⟨x',c',y',rfl,g1,g2,g3,g4⟩:=EH h e2;exact⟨x++x',c',y'++y,sm,by simp;omega,g2,g3,g4⟩
    cases h
   cases h
theorem YD {u:AV}{cu:List Value}(hu:RC ok w u cu):∀ {f:Nat} {v v':AV} {o:Nat} {cs:List Value},uP u f v o=some v'->RC ok w v cs ->
  ∃ x c y,cs=x++c++y/\x.length=o/\c.length=u.size/\RC ok w v' (x++cu++y)/\v'.size=v.size/\v'.isAgg=v.isAgg
 | 0,v,v',o,cs,h,_=>by simp[uP] at h
 | f+1,v,v',o,cs,h,hc=>by
  unfold uP at h;generalize hb:(Nat.beq o 0&&Nat.beq v.size u.size&&(v.isAgg == u.isAgg))=b at h;cases b with
  | true=>
   simp only[Bool.and_eq_true,beq_iff_eq] at hb;obtain⟨⟨h1,h2⟩,h3⟩:=hb;have h1:=Nat.eq_of_beq_eq_true h1;have h2:=Nat.eq_of_beq_eq_true h2;simp only[cond_true] at h;injection h with h
   subst h h1;exact⟨[],cs,[],sm,rfl,by rw[hc.len,h2],by simpa using hu,h2.symm,h3.symm⟩
  | false=>
   simp only[cond_false] at h;split at h
   ·rename_i n ps;rw[RC] at hc;split at h
    ·rename_i j p o' hf;obtain⟨x,c,y,rfl,e1,e2,_,_,e5⟩:=Bq hf hc.2;split at h
     ·rename_i p' hp;injection h with h
      subst h;obtain⟨x',c',y',rfl,g1,g2,g3,g4,g5⟩:=YD hu hp e2;have:=e5 p' _ g3;refine⟨x++x',c',y'++y,sm,by simp;omega,g2,?_,rfl,rfl⟩;rw[RC];refine⟨?_,by simpa using this⟩;have h1:=hc.1;have h2:=hu.len;simp at h1 ⊢;omega
     cases h
    cases h
   cases h
end
inductive Piece where
 | var (g:Nat) (T:TypeId) (v:AV)
 | tail (E:TypeId) (k:Nat) (v:Value)
 | buf (g:Nat) (E:TypeId) (k:Nat) (xs:List AV) (c:Nat)
 | obj (g:Nat) (o:Obj)
def qX:Value->Option Nat
 | .slice (some a) n c=>bif Nat.beq n c then none else some a.block
 | _=>none
def Piece.blk:Piece->Option Nat
 | .var g _ _=>some g
 | .tail _ _ v=>qX v
 | .buf g _ _ _ _=>some g
 | .obj g _=>some g
def Obj.notCells:Obj->Bool
 | .cells ..=>false
 | _=>true
def Piece.at_ (ok:Ok)(w:World):Piece->Prop
 | .var g T v=>∃ cs:List Value,w.heap[g]?=some (.cells cs.toArray T (0,0))/\RC ok w v cs
 | .tail E k v=>(∃ A n,v=.slice A n n)\/∃ g n cap D7 fr,v=.slice (some ⟨g,0,none⟩) n cap/\w.heap[g]?=some (.cells D7 E fr)/\n<cap/\cap<=maxLen/\D7.size=cap*k/\(fr.2=0\/D7.size<=fr.1)
 | .buf g E k xs c=>∃ cs1 cs2:List Value,w.heap[g]?=some (.cells (cs1++cs2).toArray E (0,0))/\RCs ok w xs cs1/\(∀ x∈xs,x.size=k)/\cs1.length+cs2.length=c*k/\c<=maxLen
 | .obj g o=>w.heap[g]?=some o/\Obj.notCells o=true
def Piece.owns:Piece->Nat->Nat->Prop
 | .var g _ _,b,_=>b=g
 | .tail _ k v,b,j=>∃ a n c,v=.slice (some a) n c/\n≠c/\b=a.block/\n*k<=j
 | .buf g _ _ _ _,b,_=>b=g
 | .obj g _,b,_=>b=g
theorem Piece.owns_blk {p:Piece}{b j:Nat}(h:p.owns b j):p.blk=some b:=by
 cases p with
 | var g T v=>exact congrArg some h.symm
 | tail E k v=>
  obtain⟨a,n,c,rfl,hne,rfl,_⟩:=h;simp[Piece.blk,qX,qN hne]
 | buf g E k xs c=>exact congrArg some h.symm
 | obj g o=>exact congrArg some h.symm
structure Base where
 w:World
 ok:Ok
 md:Nat->Prop
 gl:List (Nat × AV)
def Glob (gl:List (Nat × AV))(ok:Ok)(w:World):Prop:=∀ p∈gl,∃ cs,At ok w p.1 0 cs/\RC ok w p.2 cs
theorem Glob.stp {gl:List (Nat × AV)}{ok ok':Ok}{w w':World}(h:Glob gl ok w)(e:Stp ok w ok' w'):Glob gl ok' w':=λp hp=>let ⟨cs,a,b⟩:=h p hp;⟨cs,a.stp e,b.stp e⟩
structure St (s:Base)(ok:Ok)(m:List Piece)(w:World):Prop where
 os:w.os=s.w.os
 tape:w.tape=s.w.tape
 output:w.output=s.w.output
 stp:Stp s.ok s.w ok w
 old:∀ b,b<s.w.heap.size->¬ s.md b->w.heap[b]?=s.w.heap[b]?
 sub:∀ b j,b<s.w.heap.size->¬ s.md b->ok b j->s.ok b j
 fresh:∀ b j,w.heap.size<=b->ok b j
 at_:∀ p∈m,p.at_ ok w
 lt:∀ p∈m,∀ g,p.blk=some g->g<w.heap.size/\(s.w.heap.size<=g\/s.md g)
 own:∀ p∈m,∀ b j,p.owns b j->¬ ok b j
 dis:m.Pairwise λp q=>∀ g,p.blk=some g->q.blk≠some g
 gl:Glob s.gl ok w
theorem Piece.keep {ok ok':Ok}{w w':World}{p:Piece}(h:p.at_ ok w)(e:Stp ok w ok' w')(hb:∀ g,p.blk=some g->w'.heap[g]?=w.heap[g]?):p.at_ ok' w':=by
 cases p with
 | var g T v=>
  obtain⟨cs,h1,h2⟩:=h;exact⟨cs,(hb g rfl).trans h1,h2.stp e⟩
 | tail E k v=>
  rcases h with h|⟨g,n,cap,D7,fr,rfl,h1,h2,h3,h4⟩
  ·exact .inl h
  exact .inr ⟨g,n,cap,D7,fr,rfl,(hb g (by simp[Piece.blk,qX,qN (Nat.ne_of_lt h2)])).trans h1,h2,h3,h4⟩
 | buf g E k xs c=>
  obtain⟨cs1,cs2,h1,h2,h3⟩:=h;exact⟨cs1,cs2,(hb g rfl).trans h1,h2.stp e,h3⟩
 | obj g o=>exact⟨(hb g rfl).trans h.1,h.2⟩
theorem Piece.lt_of {ok:Ok}{w:World}{p:Piece}(h:p.at_ ok w){g:Nat}(hg:p.blk=some g):g<w.heap.size:=by
 have key:∀ {g:Nat} {o:Obj},w.heap[g]?=some o->g<w.heap.size:=λh=>(Array.getElem?_eq_some_iff.1 h).1;cases p with
 | var g' T v=>
  injection hg with hg
  subst hg;obtain⟨cs,h1,_⟩:=h;exact key h1
 | tail E k v=>
  rcases h with⟨A,n,rfl⟩|⟨g',n,cap,D7,fr,rfl,h1,h2,_⟩
  ·cases A <;> simp[Piece.blk,qX] at hg
  simp[Piece.blk,qX,qN (Nat.ne_of_lt h2)] at hg;subst hg;exact key h1
 | buf g' E k xs c=>
  injection hg with hg
  subst hg;obtain⟨cs1,cs2,h1,_⟩:=h;exact key h1
 | obj g' o=>
  injection hg with hg
  subst hg;exact key h.1
section
variable {s:Base} {ok ok':Ok} {m:List Piece} {w w':World}
structure Turn (ok:Ok)(m:List Piece)(w:World)(ok':Ok)(w':World):Prop where
 os:w'.os=w.os
 tape:w'.tape=w.tape
 output:w'.output=w.output
 stp:Stp ok w ok' w'
 blk:∀ b,b<w.heap.size->(∀ p∈m,p.blk≠some b)->w'.heap[b]?=w.heap[b]?
 sub:∀ b j,b<w.heap.size->(∀ p∈m,p.blk≠some b)->ok' b j->ok b j
 fresh:∀ b j,w'.heap.size<=b->ok' b j
theorem St.turn {m':List Piece}(h:St s ok m w)(e:Turn ok m w ok' w')(hat:∀ p∈m',p.at_ ok' w')(hlt:∀ p∈m',∀ g,p.blk=some g->w.heap.size<=g\/∃ q∈m,q.blk=some g)
  (hown:∀ p∈m',∀ b j,p.owns b j->¬ ok' b j) (hdis:m'.Pairwise λp q=>∀ g,p.blk=some g->q.blk≠some g):St s ok' m' w' where
 os:=e.os.trans h.os
 tape:=e.tape.trans h.tape
 output:=e.output.trans h.output
 stp:=h.stp.trans e.stp
 old b hb hm:=(e.blk b (Nat.lt_of_lt_of_le hb h.stp.size) λp hp hg=>by
  rcases (h.lt p hp b hg).2 with h1|h1
  ·omega
  exact hm h1).trans (h.old b hb hm)
 sub b j hb hm ho:=h.sub b j hb hm (e.sub b j (Nat.lt_of_lt_of_le hb h.stp.size) (λp hp hg=>by
  rcases (h.lt p hp b hg).2 with h1|h1
  ·omega
  exact hm h1) ho)
 fresh:=e.fresh
 at_:=hat
 lt p hp g hg:=⟨Piece.lt_of (hat p hp) hg,by
  rcases hlt p hp g hg with h1|⟨q,hq,h1⟩
  ·exact .inl (Nat.le_trans h.stp.size h1)
  exact(h.lt q hq g h1).2⟩
 own:=hown
 dis:=hdis
 gl:=h.gl.stp e.stp
theorem Dj {b j:Nat}{v:Value}(h:w.cell? ⟨b,j,none⟩=some v):b<w.heap.size:=World.block_lt_of_cell? w _ h
theorem HZ {b j:Nat}(h:w'.heap[b]?=w.heap[b]?):w'.cell? ⟨b,j,none⟩=w.cell? ⟨b,j,none⟩:=World.cell?_of_block h
theorem Turn.ext (hf:∀ b j,w'.heap.size<=b->ok' b j)(e:Ext w w')(hk:∀ b j,b<w.heap.size->(ok' b j↔ok b j)):Turn ok m w ok' w':=
 ⟨e.os,e.tape,e.output,⟨e.size,λb j _v h1 h2=>⟨(HZ (e.block b (Dj h1))).trans h1,(hk b j (Dj h1)).2 h2⟩⟩,λb hb _=>e.block b hb,λb j hb _ h=>(hk b j hb).1 h,hf⟩
theorem St.ext (h:St s ok m w)(e:Ext w w'):St s ok m w':=by
 have t:Turn ok m w ok w':=Turn.ext (λb j hb=>h.fresh b j (Nat.le_trans e.size hb)) e (λ_ _ _=>Iff.rfl);exact h.turn t (λp hp=>Piece.keep (h.at_ p hp) t.stp λg hg=>e.block g (h.lt p hp g hg).1) (λp hp g hg=>.inr ⟨p,hp,hg⟩) h.own h.dis
theorem Ext.astp (e:Ext w w')(ok:Ok):Stp ok w ok w':=⟨e.size,λb _j _v h1 h2=>⟨(HZ (e.block b (Dj h1))).trans h1,h2⟩⟩
theorem St.grow {new:List Piece}(h:St s ok m w)(e:Ext w w')(hk:∀ b j,b<w.heap.size->(ok' b j↔ok b j))(hf:∀ b j,w'.heap.size<=b->ok' b j)(hat:∀ p∈new,p.at_ ok' w')
  (hlt:∀ p∈new,∀ g,p.blk=some g->w.heap.size<=g) (hown:∀ p∈new,∀ b j,p.owns b j->¬ ok' b j) (hdis:new.Pairwise λp q=>∀ g,p.blk=some g->q.blk≠some g):St s ok' (new++m) w'/\Stp ok w ok' w':=by
 have t:Turn ok m w ok' w':=Turn.ext hf e hk;refine⟨h.turn t (λp hp=>?_) (λp hp g hg=>?_) (λp hp b j hb=>?_) ?_,t.stp⟩
 ·rcases List.mem_append.1 hp with hp|hp
  ·exact hat p hp
  exact Piece.keep (h.at_ p hp) t.stp λg hg=>e.block g (h.lt p hp g hg).1
 ·rcases List.mem_append.1 hp with hp|hp
  ·exact .inl (hlt p hp g hg)
  exact .inr ⟨p,hp,hg⟩
 ·rcases List.mem_append.1 hp with hp|hp
  ·exact hown p hp b j hb
  exact λho=>h.own p hp b j hb ((hk b j (h.lt p hp b (Piece.owns_blk hb)).1).1 ho)
 rw[List.pairwise_append];refine⟨hdis,h.dis,λp hp q hq g hg hg'=>?_⟩;have h1:=hlt p hp g hg;have h2:=(h.lt q hq g hg').1;omega
theorem St.newVar (h:St s ok m w)(T:TypeId){v:AV}{cs:List Value}(hv:RC ok w v cs) :
  ∃ ok',St s ok' (.var w.heap.size T v::m) (w.alloc (.cells cs.toArray T))/\Stp ok w ok' (w.alloc (.cells cs.toArray T)):=by
 have hk:∀ b j,b<w.heap.size->((ok b j/\b≠w.heap.size)↔ok b j):=λb j hb=>⟨λh=>h.1,λh=>⟨h,om⟩⟩;have e:=Ext.alloc w (.cells cs.toArray T);have hf:∀ b j,(w.alloc (.cells cs.toArray T)).heap.size<=b->(ok b j/\b≠w.heap.size):=λb j hb=>by
  have:w.heap.size+1<=b:=by simpa using hb
  exact⟨h.fresh b j om,om⟩
 have t:Turn ok m w (λb j=>ok b j/\b≠w.heap.size) (w.alloc (.cells cs.toArray T)):=Turn.ext hf e hk;exact⟨_,h.grow (new:=[.var w.heap.size T v]) e hk hf (λp hp=>by
  obtain rfl:p=_:=by simpa using hp
  exact⟨cs,heap_alloc_new w _,hv.stp t.stp⟩) (λp hp g hg=>by
  obtain rfl:p=_:=by simpa using hp
  injection hg with hg
  omega) (λp hp b j hb=>by
  obtain rfl:p=_:=by simpa using hp
  intro ho;exact ho.2 hb) sm⟩
theorem St.write {p p':Piece}{pre post:List Piece}{g:Nat}(h:St s ok (pre++p::post) w)(hb:p.blk=some g)(hb':p'.blk=some g\/p'.blk=none)(hst:Stp ok w ok' w')(hp':p'.at_ ok' w')(hown:∀ b j,p'.owns b j->¬ ok' b j)
  (hsz:w'.heap.size=w.heap.size) (hos:w'.os=w.os) (htp:w'.tape=w.tape) (hou:w'.output=w.output) (hk:∀ b,b≠g->w'.heap[b]?=w.heap[b]?) (hok:∀ b j,b≠g->(ok' b j↔ok b j)) :
  St s ok' (pre++p'::post) w':=by
 have hpm:p∈pre++p::post:=sm
 have hdis:=h.dis;rw[List.pairwise_append,List.pairwise_cons] at hdis;obtain⟨d1,⟨d2,d3⟩,d4⟩:=hdis;have hne:∀ q,q∈pre\/q∈post->∀ g',q.blk=some g'->g'≠g:=by
  rintro q (hq|hq) g' hg' rfl
  ·exact d4 q hq p sm g' hg' hb
  exact d2 q hq g' hb hg'
 have hmem:∀ q,q∈pre++p'::post->(q∈pre\/q∈post)\/q=p':=λq hq=>by
  rw[List.mem_append,List.mem_cons] at hq;rcases hq with hq|rfl|hq
  ·exact .inl (.inl hq)
  ·exact .inr rfl
  exact .inl (.inr hq)
 have hin:∀ q,q∈pre\/q∈post->q∈pre++p::post:=λq hq=>by rcases hq with hq|hq <;> simp[hq]
 have hglt:=(h.lt p hpm g hb).1;have t:Turn ok (pre++p::post) w ok' w':=⟨hos,htp,hou,hst,λb _ hnb=>hk b (by rintro rfl;exact hnb p hpm hb),λb j _ hnb ho=>(hok b j (by rintro rfl;exact hnb p hpm hb)).1 ho,λb j hbs=>(hok b j (by rw[hsz] at hbs;omega)).2 (h.fresh b j (by rw[hsz] at hbs;exact hbs))⟩;refine h.turn t (λq hq=>?_) (λq hq g' hg'=>?_) (λq hq b j hbj=>?_) ?_
 ·rcases hmem q hq with hq|rfl
  ·exact Piece.keep (h.at_ q (hin q hq)) hst λg' hg'=>hk g' (hne q hq g' hg')
  exact hp'
 ·rcases hmem q hq with hq|rfl
  ·exact .inr ⟨q,hin q hq,hg'⟩
  rcases hb' with hb'|hb'
  ·exact .inr ⟨p,hpm,by rw[hb,<- hb',hg']⟩
  rw[hb'] at hg';cases hg'
 ·rcases hmem q hq with hq|rfl
  ·have hbq:=hne q hq b (Piece.owns_blk hbj);exact λho=>h.own q (hin q hq) b j hbj ((hok b j hbq).1 ho)
  exact hown b j hbj
 rw[List.pairwise_append,List.pairwise_cons];refine⟨d1,⟨λq hq g' hg' hq'=>?_,d3⟩,λq hq r hr g' hg'=>?_⟩
 ·rcases hb' with hb'|hb'
  ·rw[hb'] at hg';injection hg' with hg'
   exact hne q (.inr hq) g' hq' hg'.symm
  rw[hb'] at hg';cases hg'
 rcases List.mem_cons.1 hr with rfl|hr
 ·rcases hb' with hb'|hb'
  ·rw[hb'];intro e;injection e with e
   exact hne q (.inl hq) g' hg' e.symm
  rw[hb'];simp
 exact d4 q hq r (by simp[hr]) g' hg'
theorem St.writeVar {g:Nat}{T:TypeId}{v v':AV}{pre post:List Piece}{cs':List Value}(h:St s ok (pre++.var g T v::post) w)(hv:RC ok w v' cs')(hsz:∀ cs:List Value,w.heap[g]?=some (.cells cs.toArray T (0,0))->cs'.length=cs.length) :
  St s ok (pre++.var g T v'::post) (w.setRow g cs'.toArray)/\Stp ok w ok (w.setRow g cs'.toArray):=by
 have hpm:Piece.var g T v∈pre++.var g T v::post:=sm
 obtain⟨cs,hb,hc⟩:=h.at_ _ hpm;have hst:Stp ok w ok (w.setRow g cs'.toArray):=⟨sm,λb j u h1 h2=>by
  have hne:b≠g:=by
   rintro rfl;exact h.own _ hpm b j rfl h2
  exact⟨(HZ (setRow_other w g b _ hne)).trans h1,h2⟩⟩
 exact⟨h.write (g:=g) rfl (.inl rfl) hst ⟨cs',setRow_heap w g _ _ T (0,0) hb,hv.stp hst⟩ (λb j hbj=>h.own _ hpm b j hbj) sm rfl rfl rfl (λb hne=>setRow_other w g b _ hne) (λ_ _ _=>Iff.rfl),hst⟩
theorem St.less {m':List Piece}(h:St s ok m w)(hs:m'.Sublist m):St s ok m' w:=
 ⟨h.os,h.tape,h.output,h.stp,h.old,h.sub,h.fresh,λp hp=>h.at_ p (hs.subset hp),λp hp=>h.lt p (hs.subset hp),λp hp=>h.own p (hs.subset hp),h.dis.sublist hs,h.gl⟩
theorem St.perm {m':List Piece}(h:St s ok m w)(hp:m'.Perm m):St s ok m' w:=
 ⟨h.os,h.tape,h.output,h.stp,h.old,h.sub,h.fresh,λp hq=>h.at_ p (hp.mem_iff.1 hq),λp hq=>h.lt p (hp.mem_iff.1 hq),λp hq=>h.own p (hp.mem_iff.1 hq),(hp.pairwise_iff (λh g h1 h2=>h g h2 h1)).2 h.dis,h.gl⟩
theorem St.full (h:St s ok m w)(E:TypeId)(k:Nat)(A:Option Addr)(n:Nat):St s ok (.tail E k (.slice A n n)::m) w:=
 ⟨h.os,h.tape,h.output,h.stp,h.old,h.sub,h.fresh,λp hp=>by
  rcases List.mem_cons.1 hp with rfl|hp
  ·exact .inl ⟨A,n,rfl⟩
  ·exact h.at_ p hp,λp hp g hg=>by
  rcases List.mem_cons.1 hp with rfl|hp
  ·cases A <;> simp[Piece.blk,qX] at hg
  ·exact h.lt p hp g hg,λp hp b j hb=>by
  rcases List.mem_cons.1 hp with rfl|hp
  ·obtain⟨a,n',c,he,hne,_⟩:=hb;injection he with _ h1 h2
   omega
  exact h.own p hp b j hb,List.pairwise_cons.2 ⟨λq _ g hg=>by cases A <;> simp[Piece.blk,qX] at hg,h.dis⟩,h.gl⟩
def X3 (gl:List (Nat × AV))(m:List Piece)(ok:Ok)(w:World):Base:=⟨w,ok,λb=>∃ p∈m,p.blk=some b,gl⟩
theorem St.start (gl:List (Nat × AV))(w:World)(ok:Ok)(hf:∀ b j,w.heap.size<=b->ok b j)(hg:Glob gl ok w):St (X3 gl [] ok w) ok [] w:=
 ⟨rfl,rfl,rfl,Stp.refl _ _,λ_ _ _=>rfl,λ_ _ _ _ h=>h,hf,sm,sm,sm,sm,hg⟩
theorem St.out {gl:List (Nat × AV)}{w0:World}{ok0:Ok}(h:St (X3 gl [] ok0 w0) ok m w):Ext w0 w:=⟨h.os,h.tape,h.output,h.stp.size,λb hb=>h.old b hb (fun⟨_,hp,_⟩=>by simp at hp)⟩
theorem St.lend {m1 fr:List Piece}(h:St s ok (m1++fr) w):St (X3 s.gl m1 ok w) ok m1 w:=
 ⟨rfl,rfl,rfl,Stp.refl _ _,λ_ _ _=>rfl,λ_ _ _ _ h=>h,h.fresh,λp hp=>h.at_ p (by simp[hp]),λp hp g hg=>⟨(h.lt p (by simp[hp]) g hg).1,.inr ⟨p,hp,hg⟩⟩,λp hp=>h.own p (by simp[hp]),(List.pairwise_append.1 h.dis).1,h.gl⟩
theorem St.back {m1 m1' fr:List Piece}(h:St s ok (m1++fr) w)(k:St (X3 s.gl m1 ok w) ok' m1' w'):St s ok' (m1'++fr) w':=by
 have hd:=h.dis;rw[List.pairwise_append] at hd;have hfr:∀ q∈fr,∀ g,q.blk=some g->g<w.heap.size/\¬ (X3 s.gl m1 ok w).md g:=λq hq g hg=>⟨(h.lt q (by simp[hq]) g hg).1,fun⟨p,hp,hpg⟩=>hd.2.2 p hp q hq g hpg hg⟩;have t:Turn ok (m1++fr) w ok' w':=⟨k.os,k.tape,k.output,k.stp,λb hb hnb=>k.old b hb (fun⟨p,hp,hpg⟩=>hnb p (by simp[hp]) hpg),λb j hb hnb ho=>k.sub b j hb (fun⟨p,hp,hpg⟩=>hnb p (by simp[hp]) hpg) ho,k.fresh⟩;refine h.turn t (λp hp=>?_) (λp hp g hg=>?_) (λp hp b j hbj=>?_) ?_
 ·rcases List.mem_append.1 hp with hp|hp
  ·exact k.at_ p hp
  exact Piece.keep (h.at_ p (by simp[hp])) k.stp λg hg=>k.old g (hfr p hp g hg).1 (hfr p hp g hg).2
 ·rcases List.mem_append.1 hp with hp|hp
  ·rcases (k.lt p hp g hg).2 with h1|⟨q,hq,hqg⟩
   ·exact .inl h1
   exact .inr ⟨q,by simp[hq],hqg⟩
  exact .inr ⟨p,by simp[hp],hg⟩
 ·rcases List.mem_append.1 hp with hp|hp
  ·exact k.own p hp b j hbj
  have:=hfr p hp b (Piece.owns_blk hbj);exact λho=>h.own p (by simp[hp]) b j hbj (k.sub b j this.1 this.2 ho)
 rw[List.pairwise_append];refine⟨k.dis,hd.2.1,λp hp q hq g hg hg'=>?_⟩;have:=hfr q hq g hg';rcases (k.lt p hp g hg).2 with h1|h1
 ·have:(X3 s.gl m1 ok w).w=w:=rfl;rw[this] at h1;omega
 exact this.2 h1
end
end Av
