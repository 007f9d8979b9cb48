/- . -/
import Derived.Test.YtcdbijbhifhkeaaGreatDoorV02
namespace Av
open Go Go.RowKit Tw
section
variable {v v':AV}{x y:Operand}{t:Nat}{l:List Oper}{ops:Array Oper}{m':List Piece}{w:World}{i j:Int}{k k':IntKind}{T yT:TypeId}{op:BinOp}{a:Bs}
abbrev Env:=List (Nat × AV)
def lk:Env->Nat->Option AV
 | [],_=>none
 | (t,v)::e,s=>bif Nat.beq t s then some v else lk e s
structure Sat (N:Nat)(ok:Ok)(w:World)(e:Env)(a:Act):Prop where
 size:a.tmps.size=N
 defers:a.defers=[]
 env:∀ t v,lk e t=some v->RV ok w v (a.tmps.getD t undef)
def ev (e:Env):Operand->Option AV
 | .tmp t=>lk e t
 | .const v=>bif v.oneCell' then some (.lit v) else none
 | .global g=>some (.lit (.pointer (some ⟨g,0,none⟩)))
 | .func f=>some (.lit (.func (.func f) #[] #[]))
def evs (e:Env):List Operand->Option (List AV)
 | []=>some []
 | x::xs=>match ev e x,evs e xs with
  | some v,some vs=>some (v::vs)
  | _,_=>none
def U8:AV->Bool
 | .tup _=>false
 | _=>true
section
variable {P:Program} {N:Nat} {s:Base} {e:Env} {a:Act} {ok ok':Ok} {w w':World} {m:List Piece} {Q:Exit->Act->World->Prop}
theorem Sat.eval (h:Sat N ok w e a)(hx:ev e x=some v):RV ok w v (a.eval x):=by
 cases x with
 | tmp t=>exact h.env t v hx
 | const u=>
  simp only[ev] at hx;cases hu:u.oneCell' with
  | false=>simp[hu] at hx
  | true=>
   simp[hu] at hx;subst hx;exact RV0.of_lit hu
 | global g=>
  injection hx with hx
  subst hx;exact RV0.of_lit rfl
 | func f=>
  injection hx with hx
  subst hx;exact RV0.of_lit rfl
theorem Sat.lit {v:Value}(h:Sat N ok w e a)(hx:ev e x=some (.lit v)):a.eval x=v:=RV.lit (h.eval hx)
theorem Sat.evals (h:Sat N ok w e a):∀ {xs:List Operand} {vs:List AV},evs e xs=some vs->vs.all U8=true->RVs ok w vs (xs.map a.eval)
 | [],vs,hx,_=>by
  simp[evs] at hx;subst hx;rfl
 | x::xs,vs,hx,hn=>by
  unfold evs at hx;cases h1:ev e x with
  | none=>simp[h1] at hx
  | some v=>
   cases h2:evs e xs with
   | none=>simp[h1,h2] at hx
   | some us=>
    simp[h1,h2] at hx;subst hx;simp only[List.all_cons,Bool.and_eq_true] at hn;exact⟨_,_,rfl,(h.eval h1).to0 (by rintro vs rfl;simp[U8] at hn),h.evals h2 hn.2⟩
theorem Sat.put {d:Nat}{u:Value}(h:Sat N ok w e a)(hu:RV ok w v u)(hd:Nat.blt d N=true):Sat N ok w ((d,v)::e) (a.put (some d) u):=by
 have hd':d<N:=by
  have:d+1<=N:=by simpa[Nat.blt,Nat.ble_eq] using hd
  exact this
 refine⟨by simp[Act.put,h.size],by simp[Act.put,h.defers],λt x ht=>?_⟩;unfold lk at ht;by_cases htd:d=t
 ·subst htd;simp at ht;subst ht;simpa[Act.put,h.size,hd'] using hu
 have:Nat.beq d t=false:=qN htd;simp[this] at ht;have:=h.env t x ht;simpa[Act.put,Array.getElem?_setIfInBounds_ne htd] using this
theorem Sat.stp (h:Sat N ok w e a)(st:Stp ok w ok' w'):Sat N ok' w' e a:=⟨h.size,h.defers,λt v ht=>(h.env t v ht).stp st⟩
def MV:Env->Env->Prop
 | [],_=>True
 | p::r,e=>lk e p.1=some p.2/\MV r e
theorem Sat.weak {e':Env}(h:Sat N ok w e a)(hs:MV e' e):Sat N ok w e' a:=by
 refine⟨h.size,h.defers,?_⟩
 induction e' with
 | nil=>intro t v ht;simp[lk] at ht
 | cons p r ih=>
  intro t v ht;unfold lk at ht;by_cases hp:p.1=t
  ·subst hp;simp at ht;subst ht;exact h.env _ _ hs.1
  have:Nat.beq p.1 t=false:=qN hp;simp[this] at ht;exact ih hs.2 t v ht
theorem Sat.also (ha:Sat N ok w e a)(hv:RV ok w v (a.tmps.getD t undef)):Sat N ok w ((t,v)::e) a:=by
 refine⟨ha.size,ha.defers,λx u hx=>?_⟩;unfold lk at hx;by_cases h:t=x
 ·subst h;simp at hx;subst hx;exact hv
 simp[qN h] at hx;exact ha.env x u hx
def AL (P:Program)(N:Nat)(ops:Array Oper)(Q:Exit->Act->World->Prop)(s:Base)(l:List Oper)(e:Env)(m:List Piece):Prop:=∀ ok w a,St s ok m w->Sat N ok w e a->wpList P ops Q l a w
def AC (P:Program)(N:Nat)(c:Code)(Q:Exit->Act->World->Prop)(s:Base)(e:Env)(m:List Piece):Prop:=∀ ok w a,St s ok m w->Sat N ok w e a->c.wp P Q a w
def AE (N:Nat)(x:Exit)(Q:Exit->Act->World->Prop)(s:Base)(e:Env)(m:List Piece):Prop:=∀ ok w a,St s ok m w->Sat N ok w e a->Q x a w
theorem AL.mk (h:∀ ok w a,St s ok m w->Sat N ok w e a->wpList P ops Q l a w):AL P N ops Q s l e m:=h
theorem AL.run (h:AL P N ops Q s l e m):∀ ok w a,St s ok m w->Sat N ok w e a->wpList P ops Q l a w:=h
theorem AC.mk {c:Code}(h:∀ ok w a,St s ok m w->Sat N ok w e a->c.wp P Q a w):AC P N c Q s e m:=h
theorem AC.run {c:Code}(h:AC P N c Q s e m):∀ ok w a,St s ok m w->Sat N ok w e a->c.wp P Q a w:=h
theorem AE.mk {x:Exit}(h:∀ ok w a,St s ok m w->Sat N ok w e a->Q x a w):AE N x Q s e m:=h
theorem AE.run {x:Exit}(h:AE N x Q s e m):∀ ok w a,St s ok m w->Sat N ok w e a->Q x a w:=h
theorem yK {x y:Code}(h:AC P N x (Exit.then (λa w=>y.wp P Q a w) Q) s e m):AC P N (.seq x y) Q s e m:=λok w a hS ha=>wp_seq (h ok w a hS ha)
theorem Fu {id:Nat}{c:Code}(h:AC P N c (Exit.inBlock id Q) s e m):AC P N (.block id c) Q s e m:=λok w a hS ha=>wp_block (h ok w a hS ha)
theorem Fh (h:AE N .normal Q s e m):AC P N .skip Q s e m:=λok w a hS ha=>wp_skip (h ok w a hS ha)
theorem a0U {id:Nat}(h:AE N (.exit id) Q s e m):AC P N (.exit id) Q s e m:=λok w a hS ha=>wp_exit (h ok w a hS ha)
theorem b3P (h:AE N .ret Q s e m):AC P N .ret Q s e m:=λok w a hS ha=>wp_ret (h ok w a hS ha)
theorem b3O {c:Code}(h:AC P N c (Exit.noGoto Q) s e m):AC P N (.scope c) Q s e m:=λok w a hS ha=>wp_scope_straight (h ok w a hS ha)
theorem b3Q {l:Nat}(h:AE N .normal Q s e m):AC P N (.label l) Q s e m:=λok w a hS ha=>wp_label (h ok w a hS ha)
theorem G7 {c:Operand}{x y:Code}{p:Prop}[Decidable p](ht:p->AC P N x Q s e m)(hf:¬ p->AC P N y Q s e m)(hc:ev e c=some (.lit (.bool (decide p))):=by exact rfl):AC P N (.cond c x y) Q s e m:=λok w a hS ha=>
 wp_cond_split (ha.lit hc) (λh=>ht (of_decide_eq_true h) ok w a hS ha) (λh=>hf (of_decide_eq_false h) ok w a hS ha)
theorem xF {c:Operand}{x y:Code}{b:Bool}(ht:b=true->AC P N x Q s e m)(hf:b=false->AC P N y Q s e m)(hc:ev e c=some (.lit (.bool b)):=by exact rfl):AC P N (.cond c x y) Q s e m:=λok w a hS ha=>
 wp_cond_split (ha.lit hc) (λh=>ht h ok w a hS ha) (λh=>hf h ok w a hS ha)
theorem a0V {c:Operand}{x y:Code}(h:AC P N x Q s e m)(hc:ev e c=some (.lit (.bool true)):=by exact rfl):AC P N (.cond c x y) Q s e m:=λok w a hS ha=>wp_cond_true (ha.lit hc) (h ok w a hS ha)
theorem b3T {c:Operand}{x y:Code}(h:AC P N y Q s e m)(hc:ev e c=some (.lit (.bool false)):=by exact rfl):AC P N (.cond c x y) Q s e m:=λok w a hS ha=>wp_cond_false (ha.lit hc) (h ok w a hS ha)
theorem BS {c:Code}{Q':Exit->Act->World->Prop}(h:AC P N c Q' s e m):AE N .normal (Exit.then (λa w=>c.wp P Q' a w) Q) s e m:=h
theorem VL {K:Act->World->Prop}{id:Nat}(h:AE N (.exit id) Q s e m):AE N (.exit id) (Exit.then K Q) s e m:=h
theorem b3z {K:Act->World->Prop}(h:AE N .ret Q s e m):AE N .ret (Exit.then K Q) s e m:=h
theorem yI {id:Nat}(h:AE N .normal Q s e m):AE N .normal (Exit.inBlock id Q) s e m:=h
theorem b3C {id:Nat}(h:AE N .ret Q s e m):AE N .ret (Exit.inBlock id Q) s e m:=h
theorem VM {id:Nat}(h:AE N .normal Q s e m):AE N (.exit id) (Exit.inBlock id Q) s e m:=λok w a hS ha=>by
 show Exit.inBlock id Q (.exit id) a w;simp only[Exit.inBlock,if_true];exact h ok w a hS ha
theorem Ff {id j:Nat}(h:AE N (.exit j) Q s e m)(hj:Nat.beq j id=false:=by exact rfl):AE N (.exit j) (Exit.inBlock id Q) s e m:=λok w a hS ha=>by
 show Exit.inBlock id Q (.exit j) a w;have:j≠id:=Nat.ne_of_beq_eq_false hj;simp only[Exit.inBlock,this,if_false];exact h ok w a hS ha
theorem b3B (h:AE N .ret Q s e m):AE N .ret (Exit.noGoto Q) s e m:=h
theorem LW {id:Nat}(h:AL P N l.toArray Q s l e m):AC P N (.region id l.toArray false) Q s e m:=λok w a hS ha=>wp_region_lit (h ok w a hS ha)
theorem j5 (h:AE N .normal Q s e m):AL P N ops Q s [] e m:=λok w a hS ha=>h ok w a hS ha
theorem P9 {α:Type}{I:α->Env}{M:α->List Piece}(z:α)(hs:MV (I z) e)(hm:(M z).Sublist m):AE N .normal (Exit.then (λa w=>∃ z ok,Sat N ok w (I z) a/\St s ok (M z) w) Q) s e m:=λok _w _a hS ha=>⟨z,ok,ha.weak hs,hS.less hm⟩
theorem H7 {c:Code}{α:Type}(I:α->Env)(M:α->List Piece)(F:α->Prop)(μ:α->Nat)(x:α)(h0:MV (I x) e)(hm:(M x).Sublist m)(hF:F x)
  (round:∀ x,F x->AC P N c (Exit.then (λa' w'=>∃ y ok',μ y<μ x/\Sat N ok' w' (I y) a'/\St s ok' (M y) w'/\F y) Q) s (I x) (M x)):AC P N (.loop c) Q s e m:=λok w a hS ha=>
 wp_loop_ghost (α:=α × Ok) (λx a w=>Sat N x.2 w (I x.1) a/\St s x.2 (M x.1) w/\F x.1) (λx=>μ x.1) (x,ok) ⟨ha.weak h0,hS.less hm,hF⟩ fun⟨x,ok1⟩ a1 w1 ⟨h1,h2,h3⟩=>
  wp_mono (round x h3 ok1 w1 a1 h2 h1) λex a' w' hx=>by
   cases ex <;> first|exact hx|skip
   obtain⟨y,ok',g1,g2,g3,g4⟩:=hx;exact⟨(y,ok'),g1,g2,g3,g4⟩
theorem y7 {α:Type}{I:α->Env}{M:α->List Piece}{F:α->Prop}{μ:α->Nat}{n:Nat}(y:α)(hs:MV (I y) e)(hm:(M y).Sublist m)(hF:F y)(hn:μ y<n) :
  AE N .normal (Exit.then (λa' w'=>∃ y ok',μ y<n/\Sat N ok' w' (I y) a'/\St s ok' (M y) w'/\F y) Q) s e m:=λok _w _a hS ha=>⟨y,ok,hn,ha.weak hs,hS.less hm,hF⟩
def Imp (a b:AV):Prop:=∀ ok w v,RV ok w a v->RV ok w b v
theorem Imp.of_eq {a b:AV}(h:a=b):Imp a b:=λ_ _ _ h'=>h ▸ h'
theorem Imp.sl {k:Nat}{xs:List AV}{id:Option Value}:Imp (.sl k xs id) (.sl k xs none):=λok w v h=>by
 obtain⟨h1,h2⟩:=(show RV0 ok w (.sl k xs id) v from h);refine⟨?_,h2⟩;rw[RC] at h1 ⊢;obtain⟨A,c,g1,_,g3⟩:=h1;exact⟨A,c,g1,sm,g3⟩
theorem Imp.nil {k:Nat}:Imp (.lit (.slice none 0 0)) (.sl k [] (some (.slice none 0 0))):=λok w v h=>by
 obtain rfl:=RV.lit h;refine⟨?_,rfl⟩;rw[RC];exact⟨none,0,rfl,sm,Nat.le_refl _,by simp[maxLen],sm,sm⟩
theorem Imp.nilN {k:Nat}:Imp (.lit (.slice none 0 0)) (.sl k [] none):=λok w v h=>Imp.sl ok w v (Imp.nil ok w v h)
theorem eH (t:Nat)(hi:Imp v v')(h:AL P N ops Q s l ((t,v')::e) m)(hv:lk e t=some v:=by exact rfl):AL P N ops Q s l e m:=λok w a hS ha=>h ok w a hS (ha.also (hi _ _ _ (ha.env t v hv)))
theorem sP {c:Code}(t:Nat)(hi:Imp v v')(h:AC P N c Q s ((t,v')::e) m)(hv:lk e t=some v:=by exact rfl):AC P N c Q s e m:=λok w a hS ha=>h ok w a hS (ha.also (hi _ _ _ (ha.env t v hv)))
theorem xE {x:Exit}(t:Nat)(hi:Imp v v')(h:AE N x Q s ((t,v')::e) m)(hv:lk e t=some v:=by exact rfl):AE N x Q s e m:=λok w a hS ha=>h ok w a hS (ha.also (hi _ _ _ (ha.env t v hv)))
theorem lC (hi:∀ ok w,St s ok m w->St s ok m' w)(h:AL P N ops Q s l e m'):AL P N ops Q s l e m:=λok w a hS ha=>h ok w a (hi ok w hS) ha
theorem eO {c:Code}(hi:∀ ok w,St s ok m w->St s ok m' w)(h:AC P N c Q s e m'):AC P N c Q s e m:=λok w a hS ha=>h ok w a (hi ok w hS) ha
theorem zR {x:Exit}(hi:∀ ok w,St s ok m w->St s ok m' w)(h:AE N x Q s e m'):AE N x Q s e m:=λok w a hS ha=>h ok w a (hi ok w hS) ha
end
section
variable {P:Program} {N:Nat} {ops:Array Oper} {Q:Exit->Act->World->Prop} {rest:List Oper} {s:Base} {e:Env} {m:List Piece} {d:Nat} {ty:TypeId} {pos:String} {af:Array Edge}
theorem dR {op:Op}(hrun:∀ ok w a,St s ok m w->Sat N ok w e a->∃ u,(execOp a.eval ⟨some d,op,ty,pos,af,none⟩).run P w=.ok (.value u) w/\RV ok w v u)(hd:Nat.blt d N=true)
  (h:AL P N ops Q s rest ((d,v)::e) m):AL P N ops Q s (⟨some d,op,ty,pos,af,none⟩::rest) e m:=λok w a hS ha=>
 wpList_plain rfl λK hK=>by
  obtain⟨u,h1,h2⟩:=hrun ok w a hS ha;unfold Oper.wp;rw[h1];exact hK _ _ (h _ _ _ hS (ha.put h2 hd))
theorem R8 {op:Op}{v:Value}(hv:v.oneCell'=true)(hrun:∀ ok w a,Sat N ok w e a->(execOp a.eval ⟨some d,op,ty,pos,af,none⟩).run P w=.ok (.value v) w)(hd:Nat.blt d N=true)
  (h:AL P N ops Q s rest ((d,.lit v)::e) m):AL P N ops Q s (⟨some d,op,ty,pos,af,none⟩::rest) e m:=
 dR (v:=.lit v) (λok w a _ ha=>⟨v,hrun ok w a ha,(RV0.of_lit hv:RV0 ok w (.lit v) v)⟩) hd h
theorem b2w (h:AL P N ops Q s rest ((d,v)::e) m)(hx:ev e x=some v:=by exact rfl)(hd:Nat.blt d N=true:=by exact rfl):AL P N ops Q s (⟨some d,.move x,ty,pos,af,none⟩::rest) e m:=
 dR (λok w a _ ha=>⟨_,by simp[execOp],ha.eval hx⟩) hd h
theorem b3n (h:AL P N ops Q s rest ((d,v)::e) m)(hx:ev e x=some v:=by exact rfl)(hd:Nat.blt d N=true:=by exact rfl):AL P N ops Q s (⟨some d,.assign x,ty,pos,af,none⟩::rest) e m:=
 dR (λok w a _ ha=>⟨_,by simp[execOp],ha.eval hx⟩) hd h
theorem b2m {c:Operand}(h:AL P N ops Q s rest ((d,v)::e) m)(hc:ev e c=some (.lit (.bool true)):=by exact rfl)(hx:ev e x=some v:=by exact rfl)(hd:Nat.blt d N=true:=by exact rfl):AL P N ops Q s (⟨some d,.pick c x y,ty,pos,af,none⟩::rest) e m:=
 dR (λok w a _ ha=>⟨_,by simp[execOp,ha.lit hc,asBool],ha.eval hx⟩) hd h
theorem b2n {c:Operand}(h:AL P N ops Q s rest ((d,v)::e) m)(hc:ev e c=some (.lit (.bool false)):=by exact rfl)(hy:ev e y=some v:=by exact rfl)(hd:Nat.blt d N=true:=by exact rfl):AL P N ops Q s (⟨some d,.pick c x y,ty,pos,af,none⟩::rest) e m:=
 dR (λok w a _ ha=>⟨_,by simp[execOp,ha.lit hc,asBool],ha.eval hy⟩) hd h
theorem VU {g:Nat}{c:Bool}{a:Act}(ht:(ops[g]?).bind (·.dst)=some t)(hv:a.tmps.getD t undef=.bool c):yielded ops a.tmps g=some c:=by
 have hv:a.tmps[t]?.getD undef=.bool c:=by simpa using hv
 have hlt:t<a.tmps.size:=by
  rcases Nat.lt_or_ge t a.tmps.size with h1|h1
  ·exact h1
  rw[Array.getElem?_eq_none h1] at hv;simp[undef] at hv
 have hv2:a.tmps[t]?=some (.bool c):=by
  rw[Array.getElem?_eq_getElem hlt] at hv ⊢;simpa using hv
 simp[yielded,ht,hv2]
theorem D5 {op:Op}{dst:Option Tmp}{g:Nat}{b:Bool}(h:AL P N ops Q s (⟨dst,op,ty,pos,af,none⟩::rest) e m)(ht:(ops[g]?).bind (·.dst)=some t:=by exact rfl)(hb:lk e t=some (.lit (.bool b)):=by exact rfl) :
  AL P N ops Q s (⟨dst,op,ty,pos,af,some (g,b)⟩::rest) e m:=λok w a hS ha=>by
 have hy:=VU ht (RV.lit (ha.env t _ hb));have:=h ok w a hS ha;unfold wpList at this ⊢;simp only[Region.wanted,if_true,hy,beq_self_eq_true] at this ⊢;exact this
theorem H6 {op:Op}{g:Nat}{b:Bool}(h:AL P N ops Q s rest ((d,.tup [])::e) m)(ht:(ops[g]?).bind (·.dst)=some t:=by exact rfl)(hb:lk e t=some (.lit (.bool (!b))):=by exact rfl)(hd:Nat.blt d N=true:=by exact rfl) :
  AL P N ops Q s (⟨some d,op,ty,pos,af,some (g,b)⟩::rest) e m:=λok w a hS ha=>by
 have hy:=VU ht (RV.lit (ha.env t _ hb));unfold wpList;rw[if_neg (by simp[Region.wanted,hy])];exact h _ _ _ hS (ha.put (show RV ok w (.tup []) undef from ⟨[],rfl,rfl⟩) hd)
theorem a1c {g:Nat}{a:Act}(ht:(ops[g]?).bind (·.dst)=some t)(hv:a.tmps.getD t undef=.tuple #[]):yielded ops a.tmps g=none:=by
 unfold yielded;rw[ht];show (match a.tmps[t]? with|some (.bool b)=>some b|_=>none)=none;rcases Nat.lt_or_ge t a.tmps.size with h1|h1
 ·have h2:a.tmps[t]=.tuple #[]:=by simpa[h1] using hv
  rw[Array.getElem?_eq_getElem h1,h2]
 rw[Array.getElem?_eq_none h1]
theorem U3 {op:Op}{g:Nat}{b:Bool}(h:AL P N ops Q s rest ((d,.tup [])::e) m)(ht:(ops[g]?).bind (·.dst)=some t:=by exact rfl)(hb:lk e t=some (.tup []):=by exact rfl)(hd:Nat.blt d N=true:=by exact rfl) :
  AL P N ops Q s (⟨some d,op,ty,pos,af,some (g,b)⟩::rest) e m:=λok w a hS ha=>by
 obtain⟨vs,e1,e2⟩:=(show ∃ vs:List Value,a.tmps.getD t undef=.tuple vs.toArray/\RVs ok w [] vs from ha.env t _ hb);obtain rfl:=(show vs=[] from e2);have hy:=a1c (ops:=ops) ht e1;unfold wpList;rw[if_neg (by simp[Region.wanted,hy])];exact h _ _ _ hS (ha.put (show RV ok w (.tup []) undef from ⟨[],rfl,rfl⟩) hd)
theorem Er {op:Op}{dst:Option Nat}{g:Nat}{b:Bool}{p:Prop}[Decidable p](t:Nat)(h1:p->AL P N ops Q s (⟨dst,op,ty,pos,af,some (g,b)⟩::rest) ((t,.lit (.bool true))::e) m)
  (h2:¬ p->AL P N ops Q s (⟨dst,op,ty,pos,af,some (g,b)⟩::rest) ((t,.lit (.bool false))::e) m) (hc:lk e t=some (.lit (.bool (decide p))):=by exact rfl):AL P N ops Q s (⟨dst,op,ty,pos,af,some (g,b)⟩::rest) e m:=λok w a hS ha=>by
 have hv:=ha.env t _ hc;by_cases h:p
 ·exact h1 h ok w a hS (ha.also (by simpa[h] using hv))
 exact h2 h ok w a hS (ha.also (by simpa[h] using hv))
theorem AO {v:Value}{ok:Ok}{a:Act}(ha:Sat N ok w e a)(hx:ev e x=some (.lit (.int k i)))(hy:ev e y=some (.lit (.int k j)))
  (h:(binOp op T (.int k i) (.int k j)).run P w=.ok v w):(execOp a.eval ⟨some d,.binOp op T x y yT,ty,pos,af,none⟩).run P w=.ok (.value v) w:=by
 have hg:(eqGuard op T x y (.int k i) (.int k j)).run P w=.ok () w:=by
  unfold eqGuard;split <;> rfl
 simp[execOp,ha.lit hx,ha.lit hy,hg,h]
theorem b3o {c:Int}(h:AL P N ops Q s rest ((d,.lit (.int .i64 c))::e) m)(hx:ev e x=some (.lit (.int .i64 i)):=by exact rfl)(hy:ev e y=some (.lit (.int .i64 j)):=by exact rfl)(hc:arith op i j=some c:=by exact rfl)
  (h1:-9223372036854775808<=c:=by omega) (h2:c<=9223372036854775807:=by omega) (hd:Nat.blt d N=true:=by exact rfl) :
  AL P N ops Q s (⟨some d,.binOp op T x y yT,ty,pos,af,none⟩::rest) e m:=
 R8 rfl (λok w a ha=>AO ha hx hy (by rw[QV hc,PX h1 h2])) hd h
theorem Ex {c:Int}(h:AL P N ops Q s rest ((d,.lit (.int k (k.wrap c)))::e) m)(hx:ev e x=some (.lit (.int k i)):=by exact rfl)(hy:ev e y=some (.lit (.int k j)):=by exact rfl)(hc:arith op i j=some c:=by exact rfl)
  (hd:Nat.blt d N=true:=by exact rfl):AL P N ops Q s (⟨some d,.binOp op T x y yT,ty,pos,af,none⟩::rest) e m:=
 R8 rfl (λ_ok _w _a ha=>AO ha hx hy (QV hc)) hd h
theorem b2Z {c:Bool}(h:AL P N ops Q s rest ((d,.lit (.bool c))::e) m)(hx:ev e x=some (.lit (.int k i)):=by exact rfl)(hy:ev e y=some (.lit (.int k j)):=by exact rfl)(hc:cmp op i j=some c:=by exact rfl)
  (hd:Nat.blt d N=true:=by exact rfl):AL P N ops Q s (⟨some d,.binOp op T x y yT,ty,pos,af,none⟩::rest) e m:=
 R8 rfl (λ_ok _w _a ha=>AO ha hx hy (a3j hc)) hd h
theorem Et {c:Int}(h:AL P N ops Q s rest ((d,.lit (.int k c))::e) m)(hx:ev e x=some (.lit (.int k i)):=by exact rfl)(hy:ev e y=some (.lit (.int k j)):=by exact rfl)(hc:Cg op i j=some c:=by exact rfl)
  (h0:0<=i:=by omega) (h1:0<j:=by omega) (h2:∀ c,0<=c->c<=i->k.wrap c=c:=by intro c _ _;exact PX om om) (hd:Nat.blt d N=true:=by exact rfl):AL P N ops Q s (⟨some d,.binOp op T x y yT,ty,pos,af,none⟩::rest) e m:=
 R8 rfl (λok w a ha=>AO ha hx hy (by
  have hb:j≠0:=om
  cases op <;> simp[Cg] at hc <;> subst hc <;> simp[binOp,Op.intDiv,hb]
  ·rw[Int.tdiv_eq_ediv_of_nonneg h0];exact h2 _ (Int.ediv_nonneg h0 om) (Int.ediv_le_self _ h0)
  exact Int.tmod_eq_emod_of_nonneg h0)) hd h
theorem b1V (h:AL P N ops Q s rest ((d,.lit (.int .i64 (i.tmod j)))::e) m)(hx:ev e x=some (.lit (.int .i64 i)):=by exact rfl)(hy:ev e y=some (.lit (.int .i64 j)):=by exact rfl)
  (h1:j≠0:=by omega) (hd:Nat.blt d N=true:=by exact rfl):AL P N ops Q s (⟨some d,.binOp .rem T x y yT,ty,pos,af,none⟩::rest) e m:=
 R8 rfl (λok w a ha=>AO ha hx hy (by simp[binOp,Op.intDiv,h1])) hd h
theorem LU {v:Value}(hv:v.oneCell'=true)(hx:ev e x=some (.lit (.int k i)))(hy:ev e y=some (.lit (.int k j)))(hc:∀ w,(Op.intBits op k i j).run P w=.ok v w)
  (ho:op=.and\/op=.or\/op=.xor\/op=.andNot) (hd:Nat.blt d N=true) (h:AL P N ops Q s rest ((d,.lit v)::e) m) :
  AL P N ops Q s (⟨some d,.binOp op T x y yT,ty,pos,af,none⟩::rest) e m:=
 R8 hv (λok w a ha=>AO ha hx hy (by rcases ho with rfl|rfl|rfl|rfl <;> simp[binOp,hc])) hd h
theorem LK {yk:IntKind}{v:Value}(hv:v.oneCell'=true)(hx:ev e x=some (.lit (.int k i)))(hy:ev e y=some (.lit (.int yk j)))(hc:∀ w,(Op.shift op k i yk j).run P w=.ok v w)
  (ho:op=.shl\/op=.shr) (hd:Nat.blt d N=true) (h:AL P N ops Q s rest ((d,.lit v)::e) m) :
  AL P N ops Q s (⟨some d,.binOp op T x y yT,ty,pos,af,none⟩::rest) e m:=
 R8 hv (λok w a ha=>by
  have hg:(eqGuard op T x y (.int k i) (.int yk j)).run P w=.ok () w:=by
   unfold eqGuard;split <;> rfl
  rcases ho with rfl|rfl <;> simp[execOp,ha.lit hx,ha.lit hy,hg,binOp,hc]) hd h
theorem a0r {b:Bool}(h:AL P N ops Q s rest ((d,.lit (.bool (!b)))::e) m)(hx:ev e x=some (.lit (.bool b)):=by exact rfl)(hd:Nat.blt d N=true:=by exact rfl):AL P N ops Q s (⟨some d,.unOp .not T x,ty,pos,af,none⟩::rest) e m:=
 R8 rfl (λok w a ha=>by simp[execOp,ha.lit hx,Op.unary]) hd h
theorem b2s {p:Prop}[Decidable p](h:AL P N ops Q s rest ((d,.lit (.bool (decide (¬ p))))::e) m)(hx:ev e x=some (.lit (.bool (decide p))):=by exact rfl)(hd:Nat.blt d N=true:=by exact rfl):AL P N ops Q s (⟨some d,.unOp .not T x,ty,pos,af,none⟩::rest) e m:=
 a0r (by rw[decide_not] at h;exact h) hx hd
theorem EQ {S D:TypeId}{b:Bool}{kz:Nat}[tS:Ty P S b kz][t:TyI P D k']{n:Int}(h:AL P N ops Q s rest ((d,.lit (.int k' (k'.wrap n)))::e) m)(hx:ev e x=some (.lit (.int k n)):=by exact rfl)(hd:Nat.blt d N=true:=by exact rfl):AL P N ops Q s (⟨some d,.convert S D x,ty,pos,af,none⟩::rest) e m:=by
 have:=tS.out;cases hu:P.underlying S with
 | none=>simp[hu] at this
 | some dS=>exact R8 rfl (λok w a ha=>by simp[execOp,ha.lit hx,convert,run_underlying hu,run_underlying t.out,Conv.intToInt]) hd h
theorem b2W {S D:TypeId}{b:Bool}{kz:Nat}[tS:Ty P S b kz][t:TyI P D k']{n:Int}(h:AL P N ops Q s rest ((d,.lit (.int k' n))::e) m)(hx:ev e x=some (.lit (.int k n)):=by exact rfl)
  (hf:k'.wrap n=n:=by first|(rw[IntKind.wrap_i64];omega)|(rw[IntKind.wrap_u64];omega)) (hd:Nat.blt d N=true:=by exact rfl):AL P N ops Q s (⟨some d,.convert S D x,ty,pos,af,none⟩::rest) e m:=
 EQ (by rw[hf];exact h) hx hd
abbrev str (l:Bs):AV:=.lit (sv l)
abbrev int (n:Int):AV:=.lit (.int .i64 n)
abbrev d9 (b:Bool):AV:=.lit (.bool b)
abbrev ptr (g:Nat):AV:=.lit (.pointer (some ⟨g,0,none⟩))
theorem Jg {i j:ByteArray}{v:Value}{ok:Ok}{a:Act}(ha:Sat N ok w e a)(hx:ev e x=some (.lit (.string i)))(hy:ev e y=some (.lit (.string j)))
  (h:(Op.stringOp op i j).run P w=.ok v w) (ho:op≠.shl/\op≠.shr):(execOp a.eval ⟨some d,.binOp op T x y yT,ty,pos,af,none⟩).run P w=.ok (.value v) w:=by
 have hg:(eqGuard op T x y (.string i) (.string j)).run P w=.ok () w:=by
  unfold eqGuard;split <;> rfl
 have hb:binOp op T (.string i) (.string j)=Op.stringOp op i j:=by cases op <;> rfl
 simp[execOp,ha.lit hx,ha.lit hy,hg,hb,h]
class LenLe (l:Bs)(n:outParam Nat):Prop where
 out:l.length<=n
instance (priority:=low) LenLe.lit0:LenLe [] 0:=⟨Nat.le_refl _⟩
instance LenLe.cons {c:UInt8}{l:Bs}{n:Nat}[h:LenLe l n]:LenLe (c::l) (n+1):=⟨by simpa using h.out⟩
instance LenLe.app {b:Bs}{n k:Nat}[h:LenLe a n][g:LenLe b k]:LenLe (a++b) (n+k):=⟨by have:=h.out;have:=g.out;simp;omega⟩
theorem a0G {b:Bs}(h:AL P N ops Q s rest ((d,str (a++b))::e) m)(hx:ev e x=some (str a):=by exact rfl)(hy:ev e y=some (str b):=by exact rfl)(hl:a.length+b.length<=9223372036854775807:=by first|omega|(simp;omega))(hd:Nat.blt d N=true:=by exact rfl):AL P N ops Q s (⟨some d,.binOp .add T x y yT,ty,pos,af,none⟩::rest) e m:=
 R8 rfl (λok w A hA=>Jg hA hx hy (by
  have:¬ ((a.length+b.length:Nat):Int) > IntKind.i64.max:=by simp[IntKind.max,IntKind.bits,IntKind.signed];omega
  simp only[Op.stringOp,yQ,this,if_false,b1P];rfl) sm) hd h
theorem b3a {b:Bs}{n k:Nat}(h:AL P N ops Q s rest ((d,str (a++b))::e) m)(hx:ev e x=some (str a):=by exact rfl)(hy:ev e y=some (str b):=by exact rfl)(ha:LenLe a n:=by infer_instance)(hb:LenLe b k:=by infer_instance)(hl:Nat.ble (n+k) 9223372036854775807=true:=by exact rfl)(hd:Nat.blt d N=true:=by exact rfl):AL P N ops Q s (⟨some d,.binOp .add T x y yT,ty,pos,af,none⟩::rest) e m:=
 a0G h hx hy (by have:=ha.out;have:=hb.out;have:=nlb hl;omega) hd
theorem b2Y {b:Bs}{c:Bool}(h:AL P N ops Q s rest ((d,.lit (.bool c))::e) m)(hx:ev e x=some (str a):=by exact rfl)(hy:ev e y=some (str b):=by exact rfl)(hc:Xk op a b=some c:=by exact rfl)(hd:Nat.blt d N=true:=by exact rfl):AL P N ops Q s (⟨some d,.binOp op T x y yT,ty,pos,af,none⟩::rest) e m:=
 R8 rfl (λok w A hA=>Jg hA hx hy (by
  have hq:∀ a b:Bs,(a == b)=decide (a=b):=λa b=>by by_cases h:a=b <;> simp[h]
  cases op <;> (first|(cases hc;done)|(injection hc with hc;subst hc;simp only[Op.stringOp,a1Q,blt,hq,ne_eq,decide_not];rfl))) (by constructor <;> rintro rfl <;> simp[Xk] at hc)) hd h
theorem b2J [t:TyT P T](h:AL P N ops Q s rest ((d,int a.length)::e) m)(hx:ev e x=some (str a):=by exact rfl)(hd:Nat.blt d N=true:=by exact rfl):AL P N ops Q s (⟨some d,.call ⟨.builtin .len,#[x],#[T]⟩,ty,pos,af,none⟩::rest) e m:=
 R8 rfl (λok w A hA=>by simp[execOp,resolve,invoke,builtin,hA.lit hx,Builtin.len_,run_underlying t.out,yQ,goInt]) hd h
theorem b2x {ts:Array TypeId}(h:AL P N ops Q s rest ((d,.lit (.int k (min i j)))::e) m)(hx:ev e x=some (.lit (.int k i)):=by exact rfl)(hy:ev e y=some (.lit (.int k' j)):=by exact rfl)(hd:Nat.blt d N=true:=by exact rfl):AL P N ops Q s (⟨some d,.call ⟨.builtin .min,#[x,y],ts⟩,ty,pos,af,none⟩::rest) e m:=
 R8 rfl (λok w A hA=>by
  have hm:(if j<i then j else i)=min i j:=by
   split <;> omega
  simp[execOp,resolve,hA.lit hx,hA.lit hy,invoke,builtin,Builtin.min_,Builtin.min2,hm]) hd h
theorem b2y {ts:Array TypeId}(h:AL P N ops Q s rest ((d,.lit (.int k (max i j)))::e) m)(hx:ev e x=some (.lit (.int k i)):=by exact rfl)(hy:ev e y=some (.lit (.int k' j)):=by exact rfl)(hd:Nat.blt d N=true:=by exact rfl):AL P N ops Q s (⟨some d,.call ⟨.builtin .max,#[x,y],ts⟩,ty,pos,af,none⟩::rest) e m:=
 R8 rfl (λok w A hA=>by
  have hm:(if i<j then j else i)=max i j:=by
   split <;> omega
  simp[execOp,resolve,hA.lit hx,hA.lit hy,invoke,builtin,Builtin.max_,Builtin.max2,hm]) hd h
theorem b2t {p:Addr}(h:AL P N ops Q s rest ((d,.lit (.pointer (some p)))::e) m)(hx:ev e x=some (.lit (.pointer (some p))):=by exact rfl)(hd:Nat.blt d N=true:=by exact rfl):AL P N ops Q s (⟨some d,.nilCheck x,ty,pos,af,none⟩::rest) e m:=
 R8 rfl (λok w A hA=>by simp[execOp,hA.lit hx]) hd h
theorem RVs.get {ok:Ok}:∀ {as:List AV} {vs:List Value} {i:Nat} {a:AV},RVs ok w as vs->as[i]?=some a->∃ v,vs[i]?=some v/\RV0 ok w a v
 | [],_,i,a,_,h=>by simp at h
 | b::as,_,0,a,⟨u,us,h1,h2,_⟩,h=>by
  simp at h;subst h h1;exact⟨u,rfl,h2⟩
 | b::as,_,i+1,a,⟨u,us,h1,_,h3⟩,h=>by
  subst h1;simpa using RVs.get h3 (by simpa using h)
theorem b2T {i:Nat}{vs:List AV}(h:AL P N ops Q s rest ((d,v)::e) m)(hx:ev e x=some (.tup vs):=by exact rfl)(hv:vs[i]?=some v:=by exact rfl)(hd:Nat.blt d N=true:=by exact rfl):AL P N ops Q s (⟨some d,.extract x i,ty,pos,af,none⟩::rest) e m:=
 dR (λok w a _ ha=>by
  obtain⟨us,h1,h2⟩:=(show ∃ us:List Value,a.eval x=.tuple us.toArray/\RVs ok w vs us from ha.eval hx);obtain⟨u,h3,h4⟩:=h2.get hv;have h3':us.toArray[i]?=some u:=by simpa using h3
  exact⟨u,by simp[execOp,h1,Instr.extract,h3],RV.of0 h4⟩) hd h
end
attribute [irreducible] AL AC AE
end
end Av
