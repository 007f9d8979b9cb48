/- . -/
import Derived.Test.YtgcmdlboancepaaGreatDoorQ02
namespace Av
open Go Go.RowKit Tw
section
variable {v v':AV}{x y:Operand}{g t:Nat}{l:List Oper}{ops:Array Oper}{c:Code}{b:Bool}{m':List Piece}{w:World}{ok:Ok}{i j:Int}{k k':IntKind}{T yT:TypeId}{op:BinOp}{a:Bs}
abbrev Env:=List (Nat × AV)
def lk:Env->Nat->Option AV
 | [],_=>none
 | (t,v)::e,s=>bif Nat.beq t s then some v else lk e s
structure Sat (N:Nat)(ok:Ok)(w:World)(e:Env)(a:Act):Prop where
 size:a.tmps.size=N
 defers:a.defers=[]
 env:∀ t v,lk e t=some v->RV ok w v (a.tmps.getD t undef)
def ev (e:Env):Operand->Option AV
 | .tmp t=>lk e t
 | .const v=>bif v.oneCell' then some (.lit v) else none
 | .global g=>some (.lit (.pointer (some ⟨g,0,none⟩)))
 | .func f=>some (.lit (.func (.func f) #[] #[]))
def evs (e:Env):List Operand->Option (List AV)
 | []=>some []
 | x::xs=>match ev e x,evs e xs with
  | some v,some vs=>some (v::vs)
  | _,_=>none
def U8:AV->Bool
 | .tup _=>false
 | _=>true
section
variable {P:Program} {N:Nat} {s:Base} {e:Env} {a:Act} {ok ok':Ok} {w w':World} {m:List Piece} {Q:Exit->Act->World->Prop}
theorem Sat.eval (h:Sat N ok w e a)(hx:ev e x=some v):RV ok w v (a.eval x):=by
 cases x with
 | tmp t=>exact h.env t v hx
 | const u=>
  simp only[ev] at hx;cases hu:u.oneCell' with
  | false=>simp[hu] at hx
  | true=>
   simp[hu] at hx;subst hx;exact RV0.of_lit hu
 | global g=>
  injection hx with hx
  subst hx;exact RV0.of_lit rfl
 | func f=>
  injection hx with hx
  subst hx;exact RV0.of_lit rfl
theorem Sat.lit {v:Value}(h:Sat N ok w e a)(hx:ev e x=some (.lit v)):a.eval x=v:=RV.lit (h.eval hx)
theorem Sat.evals (h:Sat N ok w e a):∀ {xs:List Operand} {vs:List AV},evs e xs=some vs->vs.all U8=true->RVs ok w vs (xs.map a.eval)
 | [],vs,hx,_=>by
  simp[evs] at hx;subst hx;rfl
 | x::xs,vs,hx,hn=>by
  unfold evs at hx;cases h1:ev e x with
  | none=>simp[h1] at hx
  | some v=>
   cases h2:evs e xs with
   | none=>simp[h1,h2] at hx
   | some us=>
    simp[h1,h2] at hx;subst hx;simp only[List.all_cons,Bool.and_eq_true] at hn;exact⟨_,_,rfl,(h.eval h1).to0 (by rintro vs rfl;simp[U8] at hn),h.evals h2 hn.2⟩
theorem Sat.put {d:Nat}{u:Value}(h:Sat N ok w e a)(hu:RV ok w v u)(hd:Nat.blt d N=true):Sat N ok w ((d,v)::e) (a.put (some d) u):=by
 have hd':d<N:=by
  have:d+1<=N:=by simpa[Nat.blt,Nat.ble_eq] using hd
  exact this
 refine⟨by simp[Act.put,h.size],by simp[Act.put,h.defers],λt x ht=>?_⟩;unfold lk at ht;by_cases htd:d=t
 ·subst htd;simp at ht;subst ht;simpa[Act.put,h.size,hd'] using hu
 have:Nat.beq d t=false:=nX htd;simp[this] at ht;have:=h.env t x ht;simpa[Act.put,Array.getElem?_setIfInBounds_ne htd] using this
theorem Sat.stp (h:Sat N ok w e a)(st:Stp ok w ok' w'):Sat N ok' w' e a:=⟨h.size,h.defers,λt v ht=>(h.env t v ht).stp st⟩
def EK:Env->Env->Prop
 | [],_=>True
 | p::r,e=>lk e p.1=some p.2/\EK r e
theorem Sat.weak {e':Env}(h:Sat N ok w e a)(hs:EK e' e):Sat N ok w e' a:=by
 refine⟨h.size,h.defers,?_⟩
 induction e' with
 | nil=>intro t v ht;simp[lk] at ht
 | cons p r ih=>
  intro t v ht;unfold lk at ht;by_cases hp:p.1=t
  ·subst hp;simp at ht;subst ht;exact h.env _ _ hs.1
  have:Nat.beq p.1 t=false:=nX hp;simp[this] at ht;exact ih hs.2 t v ht
theorem Sat.also (ha:Sat N ok w e a)(hv:RV ok w v (a.tmps.getD t undef)):Sat N ok w ((t,v)::e) a:=by
 refine⟨ha.size,ha.defers,λx u hx=>?_⟩;unfold lk at hx;by_cases h:t=x
 ·subst h;simp at hx;subst hx;exact hv
 simp[nX h] at hx;exact ha.env x u hx
def AL (P:Program)(N:Nat)(ops:Array Oper)(Q:Exit->Act->World->Prop)(s:Base)(l:List Oper)(e:Env)(m:List Piece):Prop:=∀ ok w a,St s ok m w->Sat N ok w e a->wpList P ops Q l a w
def AC (P:Program)(N:Nat)(c:Code)(Q:Exit->Act->World->Prop)(s:Base)(e:Env)(m:List Piece):Prop:=∀ ok w a,St s ok m w->Sat N ok w e a->c.wp P Q a w
def AE (N:Nat)(x:Exit)(Q:Exit->Act->World->Prop)(s:Base)(e:Env)(m:List Piece):Prop:=∀ ok w a,St s ok m w->Sat N ok w e a->Q x a w
theorem AL.mk (h:∀ ok w a,St s ok m w->Sat N ok w e a->wpList P ops Q l a w):AL P N ops Q s l e m:=h
theorem AL.run (h:AL P N ops Q s l e m):∀ ok w a,St s ok m w->Sat N ok w e a->wpList P ops Q l a w:=h
theorem AC.mk (h:∀ ok w a,St s ok m w->Sat N ok w e a->c.wp P Q a w):AC P N c Q s e m:=h
theorem AC.run (h:AC P N c Q s e m):∀ ok w a,St s ok m w->Sat N ok w e a->c.wp P Q a w:=h
theorem AE.mk {x:Exit}(h:∀ ok w a,St s ok m w->Sat N ok w e a->Q x a w):AE N x Q s e m:=h
theorem AE.run {x:Exit}(h:AE N x Q s e m):∀ ok w a,St s ok m w->Sat N ok w e a->Q x a w:=h
theorem rU {x y:Code}(h:AC P N x (Exit.then (λa w=>y.wp P Q a w) Q) s e m):AC P N (.seq x y) Q s e m:=λok w a hS ha=>wp_seq (h ok w a hS ha)
theorem Bt {id:Nat}(h:AC P N c (Exit.inBlock id Q) s e m):AC P N (.block id c) Q s e m:=λok w a hS ha=>wp_block (h ok w a hS ha)
theorem SL (h:AE N .normal Q s e m):AC P N .skip Q s e m:=λok w a hS ha=>wp_skip (h ok w a hS ha)
theorem Xl {id:Nat}(h:AE N (.exit id) Q s e m):AC P N (.exit id) Q s e m:=λok w a hS ha=>wp_exit (h ok w a hS ha)
theorem b0D (h:AE N .ret Q s e m):AC P N .ret Q s e m:=λok w a hS ha=>wp_ret (h ok w a hS ha)
theorem b0C (h:AC P N c (Exit.noGoto Q) s e m):AC P N (.scope c) Q s e m:=λok w a hS ha=>wp_scope_straight (h ok w a hS ha)
theorem b0E {l:Nat}(h:AE N .normal Q s e m):AC P N (.label l) Q s e m:=λok w a hS ha=>wp_label (h ok w a hS ha)
theorem w9 {c:Operand}{x y:Code}{p:Prop}[Decidable p](ht:p->AC P N x Q s e m)(hf:¬ p->AC P N y Q s e m)(hc:ev e c=some (.lit (.bool (decide p))):=by exact rfl):AC P N (.cond c x y) Q s e m:=λok w a hS ha=>
 wp_cond_split (ha.lit hc) (λh=>ht (of_decide_eq_true h) ok w a hS ha) (λh=>hf (of_decide_eq_false h) ok w a hS ha)
theorem nA {c:Operand}{x y:Code}(ht:b=true->AC P N x Q s e m)(hf:b=false->AC P N y Q s e m)(hc:ev e c=some (.lit (.bool b)):=by exact rfl):AC P N (.cond c x y) Q s e m:=λok w a hS ha=>
 wp_cond_split (ha.lit hc) (λh=>ht h ok w a hS ha) (λh=>hf h ok w a hS ha)
theorem Br {c:Operand}{x y:Code}(h:AC P N x Q s e m)(hc:ev e c=some (.lit (.bool true)):=by exact rfl):AC P N (.cond c x y) Q s e m:=λok w a hS ha=>wp_cond_true (ha.lit hc) (h ok w a hS ha)
theorem Xm {c:Operand}{x y:Code}(h:AC P N y Q s e m)(hc:ev e c=some (.lit (.bool false)):=by exact rfl):AC P N (.cond c x y) Q s e m:=λok w a hS ha=>wp_cond_false (ha.lit hc) (h ok w a hS ha)
theorem pV {Q':Exit->Act->World->Prop}(h:AC P N c Q' s e m):AE N .normal (Exit.then (λa w=>c.wp P Q' a w) Q) s e m:=h
theorem SA {K:Act->World->Prop}{id:Nat}(h:AE N (.exit id) Q s e m):AE N (.exit id) (Exit.then K Q) s e m:=h
theorem b0s {K:Act->World->Prop}(h:AE N .ret Q s e m):AE N .ret (Exit.then K Q) s e m:=h
theorem wC {id:Nat}(h:AE N .normal Q s e m):AE N .normal (Exit.inBlock id Q) s e m:=h
theorem b0v {id:Nat}(h:AE N .ret Q s e m):AE N .ret (Exit.inBlock id Q) s e m:=h
theorem SB {id:Nat}(h:AE N .normal Q s e m):AE N (.exit id) (Exit.inBlock id Q) s e m:=λok w a hS ha=>by
 show Exit.inBlock id Q (.exit id) a w;simp only[Exit.inBlock,if_true];exact h ok w a hS ha
theorem Bo {id j:Nat}(h:AE N (.exit j) Q s e m)(hj:Nat.beq j id=false:=by exact rfl):AE N (.exit j) (Exit.inBlock id Q) s e m:=λok w a hS ha=>by
 show Exit.inBlock id Q (.exit j) a w;have:j≠id:=Nat.ne_of_beq_eq_false hj;simp only[Exit.inBlock,this,if_false];exact h ok w a hS ha
theorem b0u (h:AE N .ret Q s e m):AE N .ret (Exit.noGoto Q) s e m:=h
theorem BI {id:Nat}(h:AL P N l.toArray Q s l e m):AC P N (.region id l.toArray false) Q s e m:=λok w a hS ha=>wp_region_lit (h ok w a hS ha)
theorem j3 (h:AE N .normal Q s e m):AL P N ops Q s [] e m:=λok w a hS ha=>h ok w a hS ha
theorem aZ {α:Type}{I:α->Env}{M:α->List Piece}(z:α)(hs:EK (I z) e)(hm:(M z).Sublist m):AE N .normal (Exit.then (λa w=>∃ z ok,Sat N ok w (I z) a/\St s ok (M z) w) Q) s e m:=λok _w _a hS ha=>⟨z,ok,ha.weak hs,hS.less hm⟩
theorem y9 {α:Type}(I:α->Env)(M:α->List Piece)(F:α->Prop)(μ:α->Nat)(x:α)(h0:EK (I x) e)(hm:(M x).Sublist m)(hF:F x)
  (round:∀ x,F x->AC P N c (Exit.then (λa' w'=>∃ y ok',μ y<μ x/\Sat N ok' w' (I y) a'/\St s ok' (M y) w'/\F y) Q) s (I x) (M x)):AC P N (.loop c) Q s e m:=λok w a hS ha=>
 wp_loop_ghost (α:=α × Ok) (λx a w=>Sat N x.2 w (I x.1) a/\St s x.2 (M x.1) w/\F x.1) (λx=>μ x.1) (x,ok) ⟨ha.weak h0,hS.less hm,hF⟩ fun⟨x,ok1⟩ a1 w1 ⟨h1,h2,h3⟩=>
  wp_mono (round x h3 ok1 w1 a1 h2 h1) λex a' w' hx=>by
   cases ex <;> first|exact hx|skip
   obtain⟨y,ok',g1,g2,g3,g4⟩:=hx;exact⟨(y,ok'),g1,g2,g3,g4⟩
theorem o9 {α:Type}{I:α->Env}{M:α->List Piece}{F:α->Prop}{μ:α->Nat}{n:Nat}(y:α)(hs:EK (I y) e)(hm:(M y).Sublist m)(hF:F y)(hn:μ y<n) :
  AE N .normal (Exit.then (λa' w'=>∃ y ok',μ y<n/\Sat N ok' w' (I y) a'/\St s ok' (M y) w'/\F y) Q) s e m:=λok _w _a hS ha=>⟨y,ok,hn,ha.weak hs,hS.less hm,hF⟩
def Imp (a b:AV):Prop:=∀ ok w v,RV ok w a v->RV ok w b v
theorem Imp.of_eq {a b:AV}(h:a=b):Imp a b:=λ_ _ _ h'=>h ▸ h'
theorem Imp.sl {k:Nat}{xs:List AV}{id:Option Value}:Imp (.sl k xs id) (.sl k xs none):=λok w v h=>by
 obtain⟨h1,h2⟩:=(show RV0 ok w (.sl k xs id) v from h);refine⟨?_,h2⟩;rw[RC] at h1 ⊢;obtain⟨A,c,g1,_,g3⟩:=h1;exact⟨A,c,g1,sm,g3⟩
theorem Imp.nil {k:Nat}:Imp (.lit (.slice none 0 0)) (.sl k [] (some (.slice none 0 0))):=λok w v h=>by
 obtain rfl:=RV.lit h;refine⟨?_,rfl⟩;rw[RC];exact⟨none,0,rfl,sm,Nat.le_refl _,by simp[maxLen],sm,sm⟩
theorem Imp.nilN {k:Nat}:Imp (.lit (.slice none 0 0)) (.sl k [] none):=λok w v h=>Imp.sl ok w v (Imp.nil ok w v h)
theorem Imp.trans {a b c:AV}(h:Imp a b)(k:Imp b c):Imp a c:=λok w v h'=>k ok w v (h ok w v h')
theorem dF (t:Nat)(hi:Imp v v')(h:AL P N ops Q s l ((t,v')::e) m)(hv:lk e t=some v:=by exact rfl):AL P N ops Q s l e m:=λok w a hS ha=>h ok w a hS (ha.also (hi _ _ _ (ha.env t v hv)))
theorem Y4 (t:Nat)(hi:Imp v v')(h:AC P N c Q s ((t,v')::e) m)(hv:lk e t=some v:=by exact rfl):AC P N c Q s e m:=λok w a hS ha=>h ok w a hS (ha.also (hi _ _ _ (ha.env t v hv)))
theorem X4 {x:Exit}(t:Nat)(hi:Imp v v')(h:AE N x Q s ((t,v')::e) m)(hv:lk e t=some v:=by exact rfl):AE N x Q s e m:=λok w a hS ha=>h ok w a hS (ha.also (hi _ _ _ (ha.env t v hv)))
theorem fF (hi:∀ ok w,St s ok m w->St s ok m' w)(h:AL P N ops Q s l e m'):AL P N ops Q s l e m:=λok w a hS ha=>h ok w a (hi ok w hS) ha
theorem P6 (hi:∀ ok w,St s ok m w->St s ok m' w)(h:AC P N c Q s e m'):AC P N c Q s e m:=λok w a hS ha=>h ok w a (hi ok w hS) ha
theorem wB {x:Exit}(hi:∀ ok w,St s ok m w->St s ok m' w)(h:AE N x Q s e m'):AE N x Q s e m:=λok w a hS ha=>h ok w a (hi ok w hS) ha
end
section
variable {P:Program} {N:Nat} {ops:Array Oper} {Q:Exit->Act->World->Prop} {rest:List Oper} {s:Base} {e:Env} {m:List Piece} {d:Nat} {ty:TypeId} {pos:String} {af:Array Edge}
theorem dC {op:Op}(hrun:∀ ok w a,St s ok m w->Sat N ok w e a->∃ u,(execOp a.eval ⟨some d,op,ty,pos,af,none⟩).run P w=.ok (.value u) w/\RV ok w v u)(hd:Nat.blt d N=true)
  (h:AL P N ops Q s rest ((d,v)::e) m):AL P N ops Q s (⟨some d,op,ty,pos,af,none⟩::rest) e m:=λok w a hS ha=>
 wpList_plain rfl λK hK=>by
  obtain⟨u,h1,h2⟩:=hrun ok w a hS ha;unfold Oper.wp;rw[h1];exact hK _ _ (h _ _ _ hS (ha.put h2 hd))
theorem R6 {op:Op}{v:Value}(hv:v.oneCell'=true)(hrun:∀ ok w a,Sat N ok w e a->(execOp a.eval ⟨some d,op,ty,pos,af,none⟩).run P w=.ok (.value v) w)(hd:Nat.blt d N=true)
  (h:AL P N ops Q s rest ((d,.lit v)::e) m):AL P N ops Q s (⟨some d,op,ty,pos,af,none⟩::rest) e m:=
 dC (v:=.lit v) (λok w a _ ha=>⟨v,hrun ok w a ha,(RV0.of_lit hv:RV0 ok w (.lit v) v)⟩) hd h
theorem RN (h:AL P N ops Q s rest ((d,v)::e) m)(hx:ev e x=some v:=by exact rfl)(hd:Nat.blt d N=true:=by exact rfl):AL P N ops Q s (⟨some d,.move x,ty,pos,af,none⟩::rest) e m:=
 dC (λok w a _ ha=>⟨_,by simp[execOp],ha.eval hx⟩) hd h
theorem b0e (h:AL P N ops Q s rest ((d,v)::e) m)(hx:ev e x=some v:=by exact rfl)(hd:Nat.blt d N=true:=by exact rfl):AL P N ops Q s (⟨some d,.assign x,ty,pos,af,none⟩::rest) e m:=
 dC (λok w a _ ha=>⟨_,by simp[execOp],ha.eval hx⟩) hd h
theorem a9b {c:Operand}(h:AL P N ops Q s rest ((d,v)::e) m)(hc:ev e c=some (.lit (.bool true)):=by exact rfl)(hx:ev e x=some v:=by exact rfl)(hd:Nat.blt d N=true:=by exact rfl):AL P N ops Q s (⟨some d,.pick c x y,ty,pos,af,none⟩::rest) e m:=
 dC (λok w a _ ha=>⟨_,by simp[execOp,ha.lit hc,asBool],ha.eval hx⟩) hd h
theorem a9c {c:Operand}(h:AL P N ops Q s rest ((d,v)::e) m)(hc:ev e c=some (.lit (.bool false)):=by exact rfl)(hy:ev e y=some v:=by exact rfl)(hd:Nat.blt d N=true:=by exact rfl):AL P N ops Q s (⟨some d,.pick c x y,ty,pos,af,none⟩::rest) e m:=
 dC (λok w a _ ha=>⟨_,by simp[execOp,ha.lit hc,asBool],ha.eval hy⟩) hd h
theorem SY {c:Bool}{a:Act}(ht:(ops[g]?).bind (·.dst)=some t)(hv:a.tmps.getD t undef=.bool c):yielded ops a.tmps g=some c:=by
 have hv:a.tmps[t]?.getD undef=.bool c:=by simpa using hv
 have hlt:t<a.tmps.size:=by
  rcases Nat.lt_or_ge t a.tmps.size with h1|h1
  ·exact h1
  rw[Array.getElem?_eq_none h1] at hv;simp[undef] at hv
 have hv2:a.tmps[t]?=some (.bool c):=by
  rw[Array.getElem?_eq_getElem hlt] at hv ⊢;simpa using hv
 simp[yielded,ht,hv2]
theorem dD {op:Op}{dst:Option Tmp}(h:AL P N ops Q s (⟨dst,op,ty,pos,af,none⟩::rest) e m)(ht:(ops[g]?).bind (·.dst)=some t:=by exact rfl)(hb:lk e t=some (.lit (.bool b)):=by exact rfl) :
  AL P N ops Q s (⟨dst,op,ty,pos,af,some (g,b)⟩::rest) e m:=λok w a hS ha=>by
 have hy:=SY ht (RV.lit (ha.env t _ hb));have:=h ok w a hS ha;unfold wpList at this ⊢;simp only[Region.wanted,if_true,hy,beq_self_eq_true] at this ⊢;exact this
theorem a9i {op:Op}(h:AL P N ops Q s rest ((d,.tup [])::e) m)(ht:(ops[g]?).bind (·.dst)=some t:=by exact rfl)(hb:lk e t=some (.lit (.bool (!b))):=by exact rfl)(hd:Nat.blt d N=true:=by exact rfl) :
  AL P N ops Q s (⟨some d,op,ty,pos,af,some (g,b)⟩::rest) e m:=λok w a hS ha=>by
 have hy:=SY ht (RV.lit (ha.env t _ hb));unfold wpList;rw[if_neg (by simp[Region.wanted,hy])];exact h _ _ _ hS (ha.put (show RV ok w (.tup []) undef from ⟨[],rfl,rfl⟩) hd)
theorem Xv {a:Act}(ht:(ops[g]?).bind (·.dst)=some t)(hv:a.tmps.getD t undef=.tuple #[]):yielded ops a.tmps g=none:=by
 unfold yielded;rw[ht];show (match a.tmps[t]? with|some (.bool b)=>some b|_=>none)=none;rcases Nat.lt_or_ge t a.tmps.size with h1|h1
 ·have h2:a.tmps[t]=.tuple #[]:=by simpa[h1] using hv
  rw[Array.getElem?_eq_getElem h1,h2]
 rw[Array.getElem?_eq_none h1]
theorem a9h {op:Op}(h:AL P N ops Q s rest ((d,.tup [])::e) m)(ht:(ops[g]?).bind (·.dst)=some t:=by exact rfl)(hb:lk e t=some (.tup []):=by exact rfl)(hd:Nat.blt d N=true:=by exact rfl) :
  AL P N ops Q s (⟨some d,op,ty,pos,af,some (g,b)⟩::rest) e m:=λok w a hS ha=>by
 obtain⟨vs,e1,e2⟩:=(show ∃ vs:List Value,a.tmps.getD t undef=.tuple vs.toArray/\RVs ok w [] vs from ha.env t _ hb);obtain rfl:=(show vs=[] from e2);have hy:=Xv (ops:=ops) ht e1;unfold wpList;rw[if_neg (by simp[Region.wanted,hy])];exact h _ _ _ hS (ha.put (show RV ok w (.tup []) undef from ⟨[],rfl,rfl⟩) hd)
theorem Bb {op:Op}{dst:Option Nat}{p:Prop}[Decidable p](t:Nat)(h1:p->AL P N ops Q s (⟨dst,op,ty,pos,af,some (g,b)⟩::rest) ((t,.lit (.bool true))::e) m)
  (h2:¬ p->AL P N ops Q s (⟨dst,op,ty,pos,af,some (g,b)⟩::rest) ((t,.lit (.bool false))::e) m) (hc:lk e t=some (.lit (.bool (decide p))):=by exact rfl):AL P N ops Q s (⟨dst,op,ty,pos,af,some (g,b)⟩::rest) e m:=λok w a hS ha=>by
 have hv:=ha.env t _ hc;by_cases h:p
 ·exact h1 h ok w a hS (ha.also (by simpa[h] using hv))
 exact h2 h ok w a hS (ha.also (by simpa[h] using hv))
theorem a9G {op:Op}{dst:Option Nat}{c:Bool}(t:Nat)(h1:c=true->AL P N ops Q s (⟨dst,op,ty,pos,af,some (g,b)⟩::rest) ((t,.lit (.bool true))::e) m)
  (h2:c=false->AL P N ops Q s (⟨dst,op,ty,pos,af,some (g,b)⟩::rest) ((t,.lit (.bool false))::e) m) (hc:lk e t=some (.lit (.bool c)):=by exact rfl):AL P N ops Q s (⟨dst,op,ty,pos,af,some (g,b)⟩::rest) e m:=λok w a hS ha=>by
 have hv:=ha.env t _ hc;cases c with
 | true=>exact h1 rfl ok w a hS (ha.also hv)
 | false=>exact h2 rfl ok w a hS (ha.also hv)
theorem xI {v:Value}{a:Act}(ha:Sat N ok w e a)(hx:ev e x=some (.lit (.int k i)))(hy:ev e y=some (.lit (.int k j)))
  (h:(binOp op T (.int k i) (.int k j)).run P w=.ok v w):(execOp a.eval ⟨some d,.binOp op T x y yT,ty,pos,af,none⟩).run P w=.ok (.value v) w:=by
 have hg:(eqGuard op T x y (.int k i) (.int k j)).run P w=.ok () w:=by
  unfold eqGuard;split <;> rfl
 simp[execOp,ha.lit hx,ha.lit hy,hg,h]
theorem b0g {c:Int}(h:AL P N ops Q s rest ((d,.lit (.int .i64 c))::e) m)(hx:ev e x=some (.lit (.int .i64 i)):=by exact rfl)(hy:ev e y=some (.lit (.int .i64 j)):=by exact rfl)(hc:arith op i j=some c:=by exact rfl)
  (h1:-9223372036854775808<=c:=by omega) (h2:c<=9223372036854775807:=by omega) (hd:Nat.blt d N=true:=by exact rfl) :
  AL P N ops Q s (⟨some d,.binOp op T x y yT,ty,pos,af,none⟩::rest) e m:=
 R6 rfl (λok w a ha=>xI ha hx hy (by rw[NQ hc,MO h1 h2])) hd h
theorem EB {c:Int}(h:AL P N ops Q s rest ((d,.lit (.int k (k.wrap c)))::e) m)(hx:ev e x=some (.lit (.int k i)):=by exact rfl)(hy:ev e y=some (.lit (.int k j)):=by exact rfl)(hc:arith op i j=some c:=by exact rfl)
  (hd:Nat.blt d N=true:=by exact rfl):AL P N ops Q s (⟨some d,.binOp op T x y yT,ty,pos,af,none⟩::rest) e m:=
 R6 rfl (λ_ok _w _a ha=>xI ha hx hy (NQ hc)) hd h
theorem a9R {c:Bool}(h:AL P N ops Q s rest ((d,.lit (.bool c))::e) m)(hx:ev e x=some (.lit (.int k i)):=by exact rfl)(hy:ev e y=some (.lit (.int k j)):=by exact rfl)(hc:cmp op i j=some c:=by exact rfl)
  (hd:Nat.blt d N=true:=by exact rfl):AL P N ops Q s (⟨some d,.binOp op T x y yT,ty,pos,af,none⟩::rest) e m:=
 R6 rfl (λ_ok _w _a ha=>xI ha hx hy (a1d hc)) hd h
theorem Bc {c:Int}(h:AL P N ops Q s rest ((d,.lit (.int k c))::e) m)(hx:ev e x=some (.lit (.int k i)):=by exact rfl)(hy:ev e y=some (.lit (.int k j)):=by exact rfl)(hc:YV op i j=some c:=by exact rfl)
  (h0:0<=i:=by omega) (h1:0<j:=by omega) (h2:∀ c,0<=c->c<=i->k.wrap c=c:=by intro c _ _;exact MO om om) (hd:Nat.blt d N=true:=by exact rfl):AL P N ops Q s (⟨some d,.binOp op T x y yT,ty,pos,af,none⟩::rest) e m:=
 R6 rfl (λok w a ha=>xI ha hx hy (by
  have hb:j≠0:=om
  cases op <;> simp[YV] at hc <;> subst hc <;> simp[binOp,Op.intDiv,hb]
  ·rw[Int.tdiv_eq_ediv_of_nonneg h0];exact h2 _ (Int.ediv_nonneg h0 om) (Int.ediv_le_self _ h0)
  exact Int.tmod_eq_emod_of_nonneg h0)) hd h
theorem a8N (h:AL P N ops Q s rest ((d,.lit (.int .i64 (i.tmod j)))::e) m)(hx:ev e x=some (.lit (.int .i64 i)):=by exact rfl)(hy:ev e y=some (.lit (.int .i64 j)):=by exact rfl)
  (h1:j≠0:=by omega) (hd:Nat.blt d N=true:=by exact rfl):AL P N ops Q s (⟨some d,.binOp .rem T x y yT,ty,pos,af,none⟩::rest) e m:=
 R6 rfl (λok w a ha=>xI ha hx hy (by simp[binOp,Op.intDiv,h1])) hd h
theorem EA {v:Value}(hv:v.oneCell'=true)(hx:ev e x=some (.lit (.int k i)))(hy:ev e y=some (.lit (.int k j)))(hc:∀ w,(Op.intBits op k i j).run P w=.ok v w)
  (ho:op=.and\/op=.or\/op=.xor\/op=.andNot) (hd:Nat.blt d N=true) (h:AL P N ops Q s rest ((d,.lit v)::e) m) :
  AL P N ops Q s (⟨some d,.binOp op T x y yT,ty,pos,af,none⟩::rest) e m:=
 R6 hv (λok w a ha=>xI ha hx hy (by rcases ho with rfl|rfl|rfl|rfl <;> simp[binOp,hc])) hd h
theorem IA {yk:IntKind}{v:Value}(hv:v.oneCell'=true)(hx:ev e x=some (.lit (.int k i)))(hy:ev e y=some (.lit (.int yk j)))(hc:∀ w,(Op.shift op k i yk j).run P w=.ok v w)
  (ho:op=.shl\/op=.shr) (hd:Nat.blt d N=true) (h:AL P N ops Q s rest ((d,.lit v)::e) m) :
  AL P N ops Q s (⟨some d,.binOp op T x y yT,ty,pos,af,none⟩::rest) e m:=
 R6 hv (λok w a ha=>by
  have hg:(eqGuard op T x y (.int k i) (.int yk j)).run P w=.ok () w:=by
   unfold eqGuard;split <;> rfl
  rcases ho with rfl|rfl <;> simp[execOp,ha.lit hx,ha.lit hy,hg,binOp,hc]) hd h
theorem Wl (h:AL P N ops Q s rest ((d,.lit (.bool (!b)))::e) m)(hx:ev e x=some (.lit (.bool b)):=by exact rfl)(hd:Nat.blt d N=true:=by exact rfl):AL P N ops Q s (⟨some d,.unOp .not T x,ty,pos,af,none⟩::rest) e m:=
 R6 rfl (λok w a ha=>by simp[execOp,ha.lit hx,Op.unary]) hd h
theorem a9j {p:Prop}[Decidable p](h:AL P N ops Q s rest ((d,.lit (.bool (decide (¬ p))))::e) m)(hx:ev e x=some (.lit (.bool (decide p))):=by exact rfl)(hd:Nat.blt d N=true:=by exact rfl):AL P N ops Q s (⟨some d,.unOp .not T x,ty,pos,af,none⟩::rest) e m:=
 Wl (by rw[decide_not] at h;exact h) hx hd
theorem yN {S D:TypeId}{kz:Nat}[tS:Ty P S b kz][t:TyI P D k']{n:Int}(h:AL P N ops Q s rest ((d,.lit (.int k' (k'.wrap n)))::e) m)(hx:ev e x=some (.lit (.int k n)):=by exact rfl)(hd:Nat.blt d N=true:=by exact rfl):AL P N ops Q s (⟨some d,.convert S D x,ty,pos,af,none⟩::rest) e m:=by
 have:=tS.out;cases hu:P.underlying S with
 | none=>simp[hu] at this
 | some dS=>exact R6 rfl (λok w a ha=>by simp[execOp,ha.lit hx,convert,run_underlying hu,run_underlying t.out,Conv.intToInt]) hd h
theorem a9O {S D:TypeId}{kz:Nat}[tS:Ty P S b kz][t:TyI P D k']{n:Int}(h:AL P N ops Q s rest ((d,.lit (.int k' n))::e) m)(hx:ev e x=some (.lit (.int k n)):=by exact rfl)
  (hf:k'.wrap n=n:=by first|(rw[IntKind.wrap_i64];omega)|(rw[IntKind.wrap_u64];omega)) (hd:Nat.blt d N=true:=by exact rfl):AL P N ops Q s (⟨some d,.convert S D x,ty,pos,af,none⟩::rest) e m:=
 yN (by rw[hf];exact h) hx hd
abbrev str (l:Bs):AV:=.lit (sv l)
abbrev int (n:Int):AV:=.lit (.int .i64 n)
abbrev d9 (b:Bool):AV:=.lit (.bool b)
abbrev ptr (g:Nat):AV:=.lit (.pointer (some ⟨g,0,none⟩))
theorem Ey {i j:ByteArray}{v:Value}{a:Act}(ha:Sat N ok w e a)(hx:ev e x=some (.lit (.string i)))(hy:ev e y=some (.lit (.string j)))
  (h:(Op.stringOp op i j).run P w=.ok v w) (ho:op≠.shl/\op≠.shr):(execOp a.eval ⟨some d,.binOp op T x y yT,ty,pos,af,none⟩).run P w=.ok (.value v) w:=by
 have hg:(eqGuard op T x y (.string i) (.string j)).run P w=.ok () w:=by
  unfold eqGuard;split <;> rfl
 have hb:binOp op T (.string i) (.string j)=Op.stringOp op i j:=by cases op <;> rfl
 simp[execOp,ha.lit hx,ha.lit hy,hg,hb,h]
class LenLe (l:Bs)(n:outParam Nat):Prop where
 out:l.length<=n
instance (priority:=low) LenLe.lit0:LenLe [] 0:=⟨Nat.le_refl _⟩
instance LenLe.cons {c:UInt8}{l:Bs}{n:Nat}[h:LenLe l n]:LenLe (c::l) (n+1):=⟨by simpa using h.out⟩
instance LenLe.app {b:Bs}{n k:Nat}[h:LenLe a n][g:LenLe b k]:LenLe (a++b) (n+k):=⟨by have:=h.out;have:=g.out;simp;omega⟩
theorem Wv {b:Bs}(h:AL P N ops Q s rest ((d,str (a++b))::e) m)(hx:ev e x=some (str a):=by exact rfl)(hy:ev e y=some (str b):=by exact rfl)(hl:a.length+b.length<=9223372036854775807:=by first|omega|(simp;omega))(hd:Nat.blt d N=true:=by exact rfl):AL P N ops Q s (⟨some d,.binOp .add T x y yT,ty,pos,af,none⟩::rest) e m:=
 R6 rfl (λok w A hA=>Ey hA hx hy (by
  have:¬ ((a.length+b.length:Nat):Int) > IntKind.i64.max:=by simp[IntKind.max,IntKind.bits,IntKind.signed];omega
  simp only[Op.stringOp,tK,this,if_false,a8H];rfl) sm) hd h
theorem a9S {b:Bs}{n k:Nat}(h:AL P N ops Q s rest ((d,str (a++b))::e) m)(hx:ev e x=some (str a):=by exact rfl)(hy:ev e y=some (str b):=by exact rfl)(ha:LenLe a n:=by infer_instance)(hb:LenLe b k:=by infer_instance)(hl:Nat.ble (n+k) 9223372036854775807=true:=by exact rfl)(hd:Nat.blt d N=true:=by exact rfl):AL P N ops Q s (⟨some d,.binOp .add T x y yT,ty,pos,af,none⟩::rest) e m:=
 Wv h hx hy (by have:=ha.out;have:=hb.out;have:=nlb hl;omega) hd
theorem a9Q {b:Bs}{c:Bool}(h:AL P N ops Q s rest ((d,.lit (.bool c))::e) m)(hx:ev e x=some (str a):=by exact rfl)(hy:ev e y=some (str b):=by exact rfl)(hc:Sq op a b=some c:=by exact rfl)(hd:Nat.blt d N=true:=by exact rfl):AL P N ops Q s (⟨some d,.binOp op T x y yT,ty,pos,af,none⟩::rest) e m:=
 R6 rfl (λok w A hA=>Ey hA hx hy (by
  have hq:∀ a b:Bs,(a == b)=decide (a=b):=λa b=>by by_cases h:a=b <;> simp[h]
  cases op <;> (first|(cases hc;done)|(injection hc with hc;subst hc;simp only[Op.stringOp,Zj,blt,hq,ne_eq,decide_not];rfl))) (by constructor <;> rintro rfl <;> simp[Sq] at hc)) hd h
theorem a9C [t:TyT P T](h:AL P N ops Q s rest ((d,int a.length)::e) m)(hx:ev e x=some (str a):=by exact rfl)(hd:Nat.blt d N=true:=by exact rfl):AL P N ops Q s (⟨some d,.call ⟨.builtin .len,#[x],#[T]⟩,ty,pos,af,none⟩::rest) e m:=
 R6 rfl (λok w A hA=>by simp[execOp,resolve,invoke,builtin,hA.lit hx,Builtin.len_,run_underlying t.out,tK,goInt]) hd h
theorem a9o {ts:Array TypeId}(h:AL P N ops Q s rest ((d,.lit (.int k (min i j)))::e) m)(hx:ev e x=some (.lit (.int k i)):=by exact rfl)(hy:ev e y=some (.lit (.int k' j)):=by exact rfl)(hd:Nat.blt d N=true:=by exact rfl):AL P N ops Q s (⟨some d,.call ⟨.builtin .min,#[x,y],ts⟩,ty,pos,af,none⟩::rest) e m:=
 R6 rfl (λok w A hA=>by
  have hm:(if j<i then j else i)=min i j:=by
   split <;> omega
  simp[execOp,resolve,hA.lit hx,hA.lit hy,invoke,builtin,Builtin.min_,Builtin.min2,hm]) hd h
theorem a9p {ts:Array TypeId}(h:AL P N ops Q s rest ((d,.lit (.int k (max i j)))::e) m)(hx:ev e x=some (.lit (.int k i)):=by exact rfl)(hy:ev e y=some (.lit (.int k' j)):=by exact rfl)(hd:Nat.blt d N=true:=by exact rfl):AL P N ops Q s (⟨some d,.call ⟨.builtin .max,#[x,y],ts⟩,ty,pos,af,none⟩::rest) e m:=
 R6 rfl (λok w A hA=>by
  have hm:(if i<j then j else i)=max i j:=by
   split <;> omega
  simp[execOp,resolve,hA.lit hx,hA.lit hy,invoke,builtin,Builtin.max_,Builtin.max2,hm]) hd h
theorem a9l {p:Addr}(h:AL P N ops Q s rest ((d,.lit (.pointer (some p)))::e) m)(hx:ev e x=some (.lit (.pointer (some p))):=by exact rfl)(hd:Nat.blt d N=true:=by exact rfl):AL P N ops Q s (⟨some d,.nilCheck x,ty,pos,af,none⟩::rest) e m:=
 R6 rfl (λok w A hA=>by simp[execOp,hA.lit hx]) hd h
theorem RVs.get :∀ {as:List AV} {vs:List Value} {i:Nat} {a:AV},RVs ok w as vs->as[i]?=some a->∃ v,vs[i]?=some v/\RV0 ok w a v
 | [],_,i,a,_,h=>by simp at h
 | b::as,_,0,a,⟨u,us,h1,h2,_⟩,h=>by
  simp at h;subst h h1;exact⟨u,rfl,h2⟩
 | b::as,_,i+1,a,⟨u,us,h1,_,h3⟩,h=>by
  subst h1;simpa using RVs.get h3 (by simpa using h)
theorem a9L {i:Nat}{vs:List AV}(h:AL P N ops Q s rest ((d,v)::e) m)(hx:ev e x=some (.tup vs):=by exact rfl)(hv:vs[i]?=some v:=by exact rfl)(hd:Nat.blt d N=true:=by exact rfl):AL P N ops Q s (⟨some d,.extract x i,ty,pos,af,none⟩::rest) e m:=
 dC (λok w a _ ha=>by
  obtain⟨us,h1,h2⟩:=(show ∃ us:List Value,a.eval x=.tuple us.toArray/\RVs ok w vs us from ha.eval hx);obtain⟨u,h3,h4⟩:=h2.get hv;have h3':us.toArray[i]?=some u:=by simpa using h3
  exact⟨u,by simp[execOp,h1,Instr.extract,h3],RV.of0 h4⟩) hd h
end
attribute [irreducible] AL AC AE
end
end Av
