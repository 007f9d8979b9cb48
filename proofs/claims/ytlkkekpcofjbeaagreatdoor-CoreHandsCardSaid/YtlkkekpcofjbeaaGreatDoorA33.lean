/- Ranges over a function: a round is a frame of its own; the loop's record is a piece that is owned. No program is named. -/
import Derived.RangeFuncRecord
import Derived.OrdersIn
import Derived.RangeFuncLeaves
import Derived.RangeFuncSeq
import Derived.Test.YtlkkekpcofjbeaaGreatDoorA24
import Derived.Test.YtlkkekpcofjbeaaGreatDoorA32
namespace Av
open Go Go.RowKit Tw
abbrev Ro (l:Nat):Fence:=Fence.wide.inRound l
abbrev yv (l:Nat):AV:=.lit (.func (.yield l) #[] #[])
class NoOut (Q:Exit->Act->World->Prop):Prop where
 out:¬ LetsOut Q
instance {K:Act->World->Prop}{Q:Exit->Act->World->Prop}[h:NoOut Q]:NoOut (Exit.then K Q):=⟨fun⟨a,w,e⟩=>h.out ⟨a,w,e⟩⟩
instance {id:Nat}{Q:Exit->Act->World->Prop}[h:NoOut Q]:NoOut (Exit.inBlock id Q):=⟨fun⟨a,w,e⟩=>h.out ⟨a,w,e⟩⟩
instance {P:Program}{l:Nat}{R:Ending->World->Prop}:NoOut (roundPost P l R):=⟨fun⟨_,_,e⟩=>e⟩
instance : NoOut (fun _ _ _ => False) := ⟨fun ⟨_, _, e⟩ => e⟩
instance {P:Program}{fn:Func}{s:Base}{K:AV->List Piece->Prop}:NoOut (bodyPost P fn (Back s K)):=⟨fun⟨_,_,_,_,_,_,_,e,_⟩=>by cases e⟩
instance {P:Program}{F:Fence}{n:Nat}{fn:Func}{s:Base}{K:AV->List Piece->Prop}:NoOut (bodyPostM F n P fn (Back s K)):=⟨fun⟨_,_,_,_,_,_,_,e,_⟩=>by cases e⟩
instance {Q:Exit->Act->World->Prop}[h:NoOut Q]:NoOut (Exit.noGoto Q):=⟨fun⟨a,w,e⟩=>h.out ⟨a,w,e⟩⟩
def noDefer (o:Oper):Bool:=match o.op with
 | .defer _=>false
 | _=>true
theorem noDefer_ne {o:Oper}(h:noDefer o=true):∀ c,o.op≠.defer c:=fun c e=>by
 unfold noDefer at h
 rw [e] at h
 cases h
section
variable {P:Program} {F:Fence}
theorem upon_F {o:Oper}{a:Act}{K:Act->World->Prop}{Q Q':Exit->Act->World->Prop}(hd:F.depth=none)(hc:∀ {f:FuncId} {args:Array Value} {w:World} {R:Ending->World->Prop},Calls P f args w R->CallsIn F 0 P f args w R)
  (hr:∀ {row:String} {args:Array Value} {w:World} {R:Value->World->Prop},Rows P row args w R->RowsIn F 0 P row args w R) (hQ:∀ chain a w,Q (.panic chain) a w->Q' (.panic chain) a w) (hO:LetsOut Q->LetsOut Q'):∀ {r:Result Go.Next},o.upon P a K Q r->o.uponIn F 0 P a K Q' r
 | .halt x w',h=>by cases x <;> first|exact hQ _ _ _ h|exact h
 | .ok x w',h=>by
  cases x with
  | enter f args=>
   refine⟨(fun e=>by rw [hd] at e;cases e),CallsIn.mono (hc h) fun e w h=>?_⟩
   cases e
   ·exact h
   ·exact hQ _ _ _ h
   ·exact hO h
  | row row args=>exact⟨(fun e=>by rw [hd] at e;cases e),hr h⟩
  | round _ _ _ _ _=>exact (show False from h).elim
  | _=>exact h
theorem list_F {ops:Array Oper}{Q Q':Exit->Act->World->Prop}(hf:∀ f,F.fn f)(hd:F.depth=none)(hc:∀ {f:FuncId} {args:Array Value} {w:World} {R:Ending->World->Prop},Calls P f args w R->CallsIn F 0 P f args w R)
  (hr:∀ {row:String} {args:Array Value} {w:World} {R:Value->World->Prop},Rows P row args w R->RowsIn F 0 P row args w R) (hQ:∀ chain a w,Q (.panic chain) a w->Q' (.panic chain) a w) (hO:¬ LetsOut Q) {rest:List Oper} :
  ∀ (l:List Oper) (a:Act) (w:World),l.all noDefer=true->(∀ a w,Q .normal a w->wpListIn F 0 P ops Q' rest a w)->wpList P ops Q l a w->wpListIn F 0 P ops Q' (l++rest) a w
 | [],a,w,_,hn,h=>hn a w h
 | o::l,a,w,ho,hn,h=>by
  rw [List.all_cons,bet] at ho
  unfold wpList at h
  rw [List.cons_append]
  unfold wpListIn
  by_cases hw:Region.wanted o (yielded ops a.tmps)=true
  ·rw [if_pos hw] at h ⊢
   rcases h with h|⟨_,h⟩
   ·refine⟨fun f _=>hf f,?_⟩
    rw [Oper.semAt_eq _ _ _ (noDefer_ne ho.1)]
    have h':=Oper.wp_mono (fun a w=>list_F hf hd hc hr hQ hO l a w ho.2 hn) h
    exact upon_F hd hc hr hQ (fun e=>absurd e hO) h'
   ·exact absurd h hO
  ·rw [if_neg hw] at h ⊢
   exact⟨fun f _=>hf f,list_F hf hd hc hr hQ hO l _ w ho.2 hn h⟩
theorem calls_w {f:FuncId}{args:Array Value}{w:World}{R:Ending->World->Prop}(h:Calls P f args w R):CallsIn Fence.wide 0 P f args w R:=callsIn_wide.2 h
theorem calls_r {l:Nat}{f:FuncId}{args:Array Value}{w:World}{R:Ending->World->Prop}(h:Calls P f args w R):CallsIn (Ro l) 0 P f args w R:=callsIn_wide.2 h
theorem rows_w {row:String}{args:Array Value}{w:World}{R:Value->World->Prop}(h:Rows P row args w R):RowsIn Fence.wide 0 P row args w R:=fun c cs _=>by
 obtain⟨v,w',h1,h2⟩:=h c cs
 exact⟨v,w',h1,stepsIn_wide.2 h2⟩
theorem rows_r {l:Nat}{row:String}{args:Array Value}{w:World}{R:Value->World->Prop}(h:Rows P row args w R):RowsIn (Ro l) 0 P row args w R:=rows_w h
end
section
variable {P:Program} {N:Nat} {ops:Array Oper} {Q:Exit->Act->World->Prop} {rest l:List Oper} {s:Base} {e:Env} {m:List Piece} {d:Nat} {ty:TypeId} {pos:String} {af:Array Edge} {gl:List (Nat × AV)} {L:Nat}
def BC (P:Program)(N L:Nat)(c:Code)(Q:Exit->Act->World->Prop)(s:Base)(e:Env)(m:List Piece):Prop:=∀ ok w a,St s ok m w->Sat N ok w e a->c.wpIn (Ro L) 0 P Q a w
theorem bc_seq {x y:Code}(h:BC P N L x (Exit.then (fun a w=>y.wpIn (Ro L) 0 P Q a w) Q) s e m):BC P N L (.seq x y) Q s e m:=fun ok w a hS ha=>wpIn_seq (h ok w a hS ha)
theorem bc_block {id:Nat}{c:Code}(h:BC P N L c (Exit.inBlock id Q) s e m):BC P N L (.block id c) Q s e m:=fun ok w a hS ha=>wpIn_block (h ok w a hS ha)
theorem bc_skip (h:AE N .normal Q s e m):BC P N L .skip Q s e m:=fun ok w a hS ha=>wpIn_skip (h.run ok w a hS ha)
theorem bc_exit {id:Nat}(h:AE N (.exit id) Q s e m):BC P N L (.exit id) Q s e m:=fun ok w a hS ha=>wpIn_exit (h.run ok w a hS ha)
theorem bc_condT {c:Operand}{x y:Code}(h:BC P N L x Q s e m)(hc:ev e c=some (.lit (.bool true)):=by exact rfl):BC P N L (.cond c x y) Q s e m:=fun ok w a hS ha=>wpIn_cond_true (ha.lit hc) (h ok w a hS ha)
theorem bc_condF {c:Operand}{x y:Code}(h:BC P N L y Q s e m)(hc:ev e c=some (.lit (.bool false)):=by exact rfl):BC P N L (.cond c x y) Q s e m:=fun ok w a hS ha=>wpIn_cond_false (ha.lit hc) (h ok w a hS ha)
theorem bc_region {id:Nat}[hQ:NoOut Q](h:AL P N l.toArray Q s l e m)(hn:l.all noDefer=true:=by exact rfl):BC P N L (.region id l.toArray false) Q s e m:=fun ok w a hS ha=>by
 refine wpIn_region_lit ?_
 have:=list_F (F:=Ro L) (rest:=[]) (fun _=>trivial) rfl calls_r rows_r (fun _ _ _ h=>h) hQ.out l a w hn (fun a w h=>h) (h.run ok w a hS ha)
 rwa [List.append_nil] at this
theorem be_thenC {c:Code}{Q':Exit->Act->World->Prop}(h:BC P N L c Q' s e m):AE N .normal (Exit.then (fun a w=>c.wpIn (Ro L) 0 P Q' a w) Q) s e m:=AE.mk h
theorem be_begin {c:Code}{r:Loop}{m1:List Piece}{F:Exit->Act->World->Prop}(hm:m.Perm (.obj L (.loop r)::m1))(hr:r.state=.ready)(h:BC P N L c Q s e (.obj L (.loop { r with state:=.busy })::m1)) :
  AE N .normal (Exit.then (fun a₁ w₁=>∃ w₂,(Instr.beginRound L).run P w₁=.ok () w₂/\c.wpIn (Ro L) 0 P Q a₁ w₂) F) s e m:=AE.mk fun ok w a hS ha=>by
 have hS':=hS.perm hm.symm
 have ho:=(hS'.at_ (.obj L (.loop r)) (by simp)).1
 obtain⟨g1,g2⟩:=St.setObj (pre:=[]) (o':=.loop { r with state:=.busy }) hS' rfl
 exact⟨_,run_beginRound ho hr,h ok _ a g1 (ha.stp g2)⟩
theorem ae_roundN {r:Loop}{m1:List Piece}{K:AV->List Piece->Prop}(hm:m.Perm (.obj L (.loop r)::m1))(hK:K (boo true) (.obj L (.loop { r with state:=.ready,pending:=none })::m1)):AE N .normal (roundPost P L (Back s K)) s e m:=AE.mk fun ok w a hS ha=>by
 have hS':=hS.perm hm.symm
 have ho:=(hS'.at_ (.obj L (.loop r)) (by simp)).1
 obtain⟨g1,g2⟩:=St.setObj (pre:=[]) (o':=.loop { r with state:=.ready,pending:=none }) hS' rfl
 exact⟨_,_,run_endRound none ho,boo true,_,ok,.bool true,hK,rfl,RV0.of_lit rfl,g1⟩
theorem ae_roundX {r:Loop}{id:Nat}{m1:List Piece}{K:AV->List Piece->Prop}(hm:m.Perm (.obj L (.loop r)::m1))(hK:K (boo false) (.obj L (.loop { r with state:=.done,pending:=some (.exit id) })::m1)):AE N (.exit id) (roundPost P L (Back s K)) s e m:=AE.mk fun ok w a hS ha=>by
 have hS':=hS.perm hm.symm
 have ho:=(hS'.at_ (.obj L (.loop r)) (by simp)).1
 obtain⟨g1,g2⟩:=St.setObj (pre:=[]) (o':=.loop { r with state:=.done,pending:=some (.exit id) }) hS' rfl
 exact⟨_,_,run_endRound (some (.exit id)) ho,boo false,_,ok,.bool false,hK,rfl,RV0.of_lit rfl,g1⟩
def Yld (P:Program)(gl:List (Nat × AV))(ok0:Ok)(w0:World)(L:Nat)(args:List AV)(m:List Piece)(K:AV->List Piece->Prop):Prop:=
 ∀ ok w cargs,Stp ok0 w0 ok w->St (lent gl m ok w) ok m w->RVs ok w args cargs->YieldAt Fence.wide 0 P L cargs.toArray w (Back (lent gl m ok w) K)
theorem yld_of {ok0:Ok}{w0:World}{e0:Env}{a0:Act}{r:Loop}{p:Nat}{x:AV}{m1:List Piece}{K:AV->List Piece->Prop}(h0:Sat N ok0 w0 e0 a0)(hr:r.tmps=a0.tmps)(hp:r.params=#[p])(hpN:Nat.blt p N=true)
  (h:∀ s:Base,s.gl=gl->BC P N L r.assign (Exit.then (fun a₁ w₁=>∃ w₂,(Instr.beginRound L).run P w₁=.ok () w₂/\r.body.wpIn (Ro L) 0 P (roundPost P L (Back s K)) a₁ w₂) (fun _ _ _=>False)) s ((p,x)::e0) (.obj L (.loop r)::m1)) :
  Yld P gl ok0 w0 L [x] (.obj L (.loop r)::m1) K:=fun ok w cargs hst hS hv=>by
 obtain⟨u,us,rfl,hu,h2⟩:=hv
 obtain rfl:=(show us=[] from h2)
 have ho:=(hS.at_ (.obj L (.loop r)) (by simp)).1
 refine⟨_,_,_,_,run_yield ho (by rw [hp];rfl),roundIn_of_wpIn trivial ?_⟩
 have ha:Sat N ok w ((p,x)::e0) (a0.put (some p) u):=(h0.stp hst).put (RV.of0 hu) hpN
 have e1:({ tmps:=(r.params.zip #[u]).foldl (fun tmps (t,a)=>tmps.setIfInBounds t a) r.tmps,defers:=[] }:Act)=a0.put (some p) u:=by
  have hdf:a0.defers=[]:=h0.defers
  rw [hp,hr]
  obtain⟨t0,d0⟩:=a0
  subst hdf
  simp [Act.put]
 have:=h (lent gl (.obj L (.loop r)::m1) ok w) rfl ok w _ hS ha
 rw [<- e1] at this
 exact this
def AI (P:Program)(N:Nat)(ops:Array Oper)(Q:Exit->Act->World->Prop)(s:Base)(l:List Oper)(e:Env)(m:List Piece):Prop:=∀ ok w a,St s ok m w->Sat N ok w e a->wpListIn Fence.wide 0 P ops Q l a w
theorem ac_regionI {id:Nat}(h:AI P N l.toArray Q s l e m):AC P N (.region id l.toArray false) Q s e m:=AC.mk fun ok w a hS ha=>(wpIn_wide (n:=0)).1 (wpIn_region_lit (h ok w a hS ha))
theorem ai_nil (h:AE N .normal Q s e m):AI P N ops Q s [] e m:=fun ok w a hS ha=>h.run ok w a hS ha
theorem ai_pre {pre:List Oper}{α:Type}(I:α->Env)(M:α->List Piece)(h1:AL P N ops (Exit.then (fun a w=>∃ z ok,Sat N ok w (I z) a/\St s ok (M z) w) (fun _ _ _=>False)) s pre e m)(h2:∀ z,AI P N ops Q s rest (I z) (M z))(hn:pre.all noDefer=true:=by exact rfl):AI P N ops Q s (pre++rest) e m:=fun ok w a hS ha=>
 list_F (F:=Fence.wide) (Q:=Exit.then (fun a w=>∃ z ok,Sat N ok w (I z) a/\St s ok (M z) w) (fun _ _ _=>False)) (fun _=>trivial) rfl calls_w rows_w (fun _ _ _ h=>h.elim) (NoOut.out) pre a w hn (fun a w hx=>by
  obtain⟨z,ok,g1,g2⟩:=hx
  exact h2 z ok w a g2 g1) (h1.run ok w a hS ha)
theorem ai_al [hQ:NoOut Q](h:AL P N ops Q s l e m)(hn:l.all noDefer=true:=by exact rfl):AI P N ops Q s l e m:=fun ok w a hS ha=>by
 have:=list_F (F:=Fence.wide) (rest:=[]) (fun _=>trivial) rfl calls_w rows_w (fun _ _ _ h=>h) hQ.out l a w hn (fun a w h=>h) (h.run ok w a hS ha)
 rwa [List.append_nil] at this
theorem ai_yield {ok0:Ok}{w0:World}{x:Operand}{xs:List Operand}{ts:Array TypeId}{args:List AV}(m1 fr:List Piece){K:AV->List Piece->Prop}(hc:Yld P s.gl ok0 w0 L args m1 K)(hw:Stp ok0 w0 s.ok s.w)(h:∀ v m1',K v m1'->AI P N ops Q s rest ((d,v)::e) (m1'++fr))(hp:m.Perm (m1++fr))
  (h0:ev e x=some (yv L):=by exact rfl) (hx:evs e xs=some args:=by exact rfl) (hn:args.all noTup=true:=by exact rfl) (hd:Nat.blt d N=true:=by exact rfl):AI P N ops Q s (⟨some d,.call ⟨.value x,xs.toArray,ts⟩,ty,pos,af,none⟩::rest) e m:=fun ok w a hS ha=>by
 refine wpListIn_plain rfl fun K' hK=>?_
 have hS':=hS.perm hp.symm
 obtain⟨fn,tmps,assign,body,hy,hR⟩:=hc ok w _ (hw.trans hS.stp) hS'.lend (ha.evals hx hn)
 refine⟨fun _ _=>trivial,?_⟩
 have hrun:(execOp a.eval ⟨some d,.call ⟨.value x,xs.toArray,ts⟩,ty,pos,af,none⟩).run P w=.ok (.round L fn tmps assign body) w:=by
  simpa [execOp,resolve,ha.lit h0,Deferred.ofValue,invoke] using hy
 have hsem:Oper.semAt Fence.wide.round a.eval ⟨some d,.call ⟨.value x,xs.toArray,ts⟩,ty,pos,af,none⟩=execOp a.eval ⟨some d,.call ⟨.value x,xs.toArray,ts⟩,ty,pos,af,none⟩:=Oper.semAt_eq _ _ _ (fun c e=>by cases e)
 rw [hsem,hrun,Oper.uponIn_round]
 refine⟨(fun e=>by cases e),RoundIn.mono hR fun x w' hx=>?_⟩
 obtain⟨v,m',ok',cv,g1,rfl,g2,g3⟩:=hx
 exact hK _ _ (h v m' g1 ok' w' _ (hS'.back g3) ((ha.stp g3.stp).put g2 hd))
theorem calls_enter {f:FuncId}{fn:Func}{c:Code}{args:List AV}{K:AV->List Piece->Prop}(hf:P.funcs[f]?=some fn)(hb:fn.body=some c)(hN:fn.ntmps=N)(hl':Nat.ble args.length N=true){ok:Ok}{w:World}{cargs:List Value}(hS:St (lent gl m ok w) ok m w)(hv:RVs ok w args cargs)
  (h:AC P N c (bodyPost P fn (Back (lent gl m ok w) K)) (lent gl m ok w) (argE 0 args) m):Calls P f cargs.toArray w (Back (lent gl m ok w) K):=by
 have hl:args.length<=N:=nlb hl'
 have hcl:=hv.length
 refine calls_of_wp hf hb (h.run ok w _ hS ⟨?_,rfl,?_⟩)
 ·simp [hN];omega
 ·intro t v ht
  obtain⟨_,h2⟩:=argE_lk args 0 t v ht
  simp only [Nat.sub_zero] at h2
  obtain⟨u,h3,h4⟩:=hv.get h2
  have hlt:t < cargs.length:=(List.getElem?_eq_some_iff.1 h3).1
  have h5:cargs[t]=u:=(List.getElem?_eq_some_iff.1 h3).2
  have h6:=RV.of0 h4
  simpa [Array.getElem?_append,hlt,h5] using h6
abbrev loopOf (fn:FuncId)(a:Act)(ps:Array Tmp)(assign body:Code)(w:World):Loop:={ state:=.ready,pending:=none,fn,tmps:=a.tmps,params:=ps,assign,body,defers:=w.heap.size }
abbrev markOf (w:World):List Deferred:=[{ target:=.collected w.heap.size,args:=#[] }]
theorem ac_rangeFunc {g:Operand}{ps:Array Tmp}{assign body:Code}{gf:FuncId}[hf:FnB P gf]{lb:List Value}(_:∀ v ∈ lb,v.oneCell'=true)
  (h:∀ ok w a fn,St s ok m w->Sat N ok w e a->∀ ok1 w1,Stp ok w ok1 w1->St s ok1 (.obj (w.heap.size + 1) (.loop (loopOf fn a ps assign body w))::.obj w.heap.size (.deferred (some []))::m) w1->Sat N ok1 w1 e a ->
   Calls P gf ((.func (.yield (w.heap.size + 1)) #[] #[])::lb).toArray w1 (fun x w2=>∃ v ok2 r' m2,x=.returned v/\r'.state≠.busy/\St s ok2 (.obj (w.heap.size + 1) (.loop r')::m2) w2/\Stp ok1 w1 ok2 w2 /\
    ∀ ok3 w3,St s ok3 (.obj (w.heap.size + 1) (.loop { r' with state:=.exhausted })::m2) w3->Stp ok2 w2 ok3 w3->(match r'.pending with
     | none=>Q .normal { a with defers:=markOf w } w3
     | some c=>c.wp P Q { a with defers:=markOf w } w3)))
  (h0:ev e g=some (fnv gf lb):=by exact rfl):AC P N (.rangeFunc g ps assign body) Q s e m:=AC.mk fun ok w a hS ha=>by
 refine (wpIn_wide (n:=0)).1 (wpIn_rangeFunc fun fn _=>?_)
 obtain⟨ok1,hS1,st1⟩:=hS.newObj (o:=.deferred (some [])) rfl
 obtain⟨ok2,hS2,st2⟩:=hS1.newObj (o:=.loop (loopOf fn a ps assign body w)) rfl
 have hsz:(w.alloc (.deferred (some []))).heap.size=w.heap.size + 1:=World.size_alloc _ _
 rw [hsz] at hS2
 have hst:=st1.trans st2
 have hcall:=h ok w a fn hS ha ok2 _ hst hS2 (ha.stp hst)
 have hev:a.eval g=.func (.func gf) #[] lb.toArray:=ha.lit h0
 refine⟨w.heap.size + 1,markOf w,(w.alloc (.deferred (some []))).alloc (.loop (loopOf fn a ps assign body w)),{ target:=.fn (.func gf) lb.toArray,args:=#[.func (.yield (w.heap.size + 1)) #[] #[]] },(w.alloc (.deferred (some []))).alloc (.loop (loopOf fn a ps assign body w)),gf,((.func (.yield (w.heap.size + 1)) #[] #[])::lb).toArray,(w.alloc (.deferred (some []))).alloc (.loop (loopOf fn a ps assign body w)),run_enterLoop_outer fn a.tmps ps assign body,?_,fun _ _=>trivial,?_,(fun e=>by cases e),?_⟩
 rotate_left 2
 ·refine CallsIn.mono (callsIn_wide.2 hcall) fun x w2 hx=>?_
  obtain⟨v,ok3,r',m2,rfl,hb,hS3,st3,hk⟩:=hx
  have ho:=(hS3.at_ (.obj (w.heap.size + 1) (.loop r')) (by simp)).1
  obtain⟨g1,g2⟩:=St.setObj (pre:=[]) (o':=.loop { r' with state:=.exhausted }) hS3 rfl
  refine⟨_,_,run_endLoop ho hb,?_⟩
  have hk':=hk ok3 _ g1 g2
  have hdf:markOf w++a.defers=markOf w:=by rw [ha.defers,List.append_nil]
  show (match r'.pending with|none=>Q .normal { a with defers:=markOf w++a.defers } _|some c=>c.wpIn Fence.wide 0 P Q { a with defers:=markOf w++a.defers } _)
  rw [hdf]
  cases hpd:r'.pending with
  | none=>rw [hpd] at hk';exact hk'
  | some c=>rw [hpd] at hk';exact (wpIn_wide (n:=0)).2 hk'
 ·have e1:resolve a.eval (rangeCall g (w.heap.size + 1)) 0=Deferred.ofValue (a.eval g) #[.func (.yield (w.heap.size + 1)) #[] #[]]:=by
   have hc:a.eval (.const (.func (.yield (w.heap.size + 1)) #[] #[]))=.func (.yield (w.heap.size + 1)) #[] #[]:=rfl
   simp [resolve,hc]
  rw [e1,hev]
  simp [Deferred.ofValue]
 ·simp [invoke,hf.run]
theorem put_defers (a:Act)(d:Option Tmp)(v:Value):(a.put d v).defers=a.defers:=by cases d <;> rfl
theorem wpList_grow {K:Act->World->Prop}(hK:∀ a w,K a w->a.defers=[]):∀ (l:List Oper) (a:Act) (w:World),a.defers≠[]->¬ wpList P ops (Exit.then K fun _ _ _=>False) l a w
 | [],a,w,hd,h=>hd (hK a w h)
 | o::l,a,w,hd,h=>by
  have ih:=wpList_grow hK l
  unfold wpList at h
  by_cases hw:Region.wanted o (yielded ops a.tmps)=true
  ·rw [if_pos hw] at h
   rcases h with h|⟨_,_,_,h⟩
   ·unfold Oper.wp at h
    generalize (execOp a.eval o).run P w=r at h
    cases r with
    | halt x w'=>cases x <;> exact h
    | ok x w'=>
     cases x with
     | value v=>exact ih _ _ (by rw [put_defers];exact hd) h
     | skip=>exact ih _ _ (by rw [put_defers];exact hd) h
     | enter f args=>
      obtain⟨e,w2,fr,hR,_⟩:=(show Calls P f args w' _ from h) []
      cases e
      ·exact ih _ _ (by rw [put_defers];exact hd) hR
      ·exact hR
      ·obtain⟨_,_,hR⟩:=hR
       exact hR
     | row row args=>
      obtain⟨v,w2,hR,_⟩:=(show Rows P row args w' _ from h) default []
      exact ih _ _ (by rw [put_defers];exact hd) hR
     | defer d=>exact ih _ _ (by rw [put_defers];exact List.cons_ne_nil _ _) h
     | _=>exact h
   ·exact h.elim
  ·rw [if_neg hw] at h
   exact ih _ _ (by rw [put_defers];exact hd) h
theorem wpList_ds {ds:List Deferred}{K:Act->World->Prop}(hK:∀ a w,K a w->a.defers=[]):∀ (l:List Oper) (a:Act) (w:World),wpList P ops (Exit.then K fun _ _ _=>False) l a w->wpList P ops (Exit.then (fun a' w'=>∃ a0:Act,a'={ a0 with defers:=ds }/\K a0 w') fun _ _ _=>False) l { a with defers:=ds } w
 | [],a,w,h=>⟨a,rfl,h⟩
 | o::l,a,w,h=>by
  have hput:∀ (a:Act) (v:Value),({ a with defers:=ds }:Act).put o.dst v={ a.put o.dst v with defers:=ds }:=fun a v=>by
   cases o.dst <;> rfl
  have hev:({ a with defers:=ds }:Act).eval=a.eval:=by
   funext x
   cases x <;> rfl
  unfold wpList at h ⊢
  by_cases hw:Region.wanted o (yielded ops a.tmps)=true
  ·rw [if_pos hw] at h
   rw [if_pos (show Region.wanted o (yielded ops ({ a with defers:=ds }:Act).tmps)=true from hw)]
   rcases h with h|⟨_,_,_,h⟩
   ·left
    unfold Oper.wp at h ⊢
    rw [hev]
    generalize (execOp a.eval o).run P w=r at h ⊢
    have key:∀ v w,wpList P ops (Exit.then K fun _ _ _=>False) l (a.put o.dst v) w->wpList P ops (Exit.then (fun a' w'=>∃ a0:Act,a'={ a0 with defers:=ds }/\K a0 w') fun _ _ _=>False) l (({ a with defers:=ds }:Act).put o.dst v) w:=fun v w h=>by
     rw [hput]
     exact wpList_ds hK l _ w h
    cases r with
    | halt x w'=>cases x <;> exact h
    | ok x w'=>
     cases x with
     | value v=>exact key v w' h
     | skip=>exact key _ w' h
     | enter f args=>
      refine Calls.mono (show Calls P f args w' _ from h) fun e w h=>?_
      cases e
      ·exact key _ _ h
      ·exact h
      ·exact h
     | row row args=>exact Rows.mono (show Rows P row args w' _ from h) fun v w h=>key v w h
     | defer d=>exact (wpList_grow hK l _ _ (by rw [put_defers];exact List.cons_ne_nil _ _) h).elim
     | _=>exact h
   ·exact h.elim
  ·rw [if_neg hw] at h
   rw [if_neg (show ¬ Region.wanted o (yielded ops ({ a with defers:=ds }:Act).tmps)=true from hw),hput]
   exact wpList_ds hK l _ w h
def ACD (P:Program)(N:Nat)(ds:List Deferred)(c:Code)(Q:Exit->Act->World->Prop)(s:Base)(e:Env)(m:List Piece):Prop:=∀ ok w a,St s ok m w->Sat N ok w e a->c.wp P Q { a with defers:=ds } w
theorem acd_seq {ds:List Deferred}{x y:Code}(h:ACD P N ds x (Exit.then (fun a w=>y.wp P Q a w) Q) s e m):ACD P N ds (.seq x y) Q s e m:=fun ok w a hS ha=>wp_seq (h ok w a hS ha)
def AED (N:Nat)(ds:List Deferred)(x:Exit)(Q:Exit->Act->World->Prop)(s:Base)(e:Env)(m:List Piece):Prop:=∀ ok w a,St s ok m w->Sat N ok w e a->Q x { a with defers:=ds } w
theorem acd_ret {ds:List Deferred}(h:AED N ds .ret Q s e m):ACD P N ds .ret Q s e m:=fun ok w a hS ha=>wp_ret (h ok w a hS ha)
theorem aed_thenC {ds:List Deferred}{c:Code}{Q':Exit->Act->World->Prop}(h:ACD P N ds c Q' s e m):AED N ds .normal (Exit.then (fun a w=>c.wp P Q' a w) Q) s e m:=h
theorem aed_block {ds:List Deferred}{id:Nat}(h:AED N ds .normal Q s e m):AED N ds .normal (Exit.inBlock id Q) s e m:=h
theorem acd_region {ds:List Deferred}{id:Nat}{α:Type}(I:α->Env)(M:α->List Piece)(h:AL P N l.toArray (Exit.then (fun a w=>∃ z ok,Sat N ok w (I z) a/\St s ok (M z) w) fun _ _ _=>False) s l e m)(h2:∀ z,AED N ds .normal Q s (I z) (M z)):ACD P N ds (.region id l.toArray false) Q s e m:=fun ok w a hS ha=>by
 refine wp_region_lit (wpList_mono (fun x a' w' hx=>?_) _ _ _ (wpList_ds (ds:=ds) (fun a w ⟨_,_,g,_⟩=>g.defers) l a w (h.run ok w a hS ha)))
 cases x
 case normal=>
  obtain⟨a0,rfl,z,ok',g1,g2⟩:=hx
  exact h2 z ok' w' a0 g2 g1
 all_goals exact hx.elim
theorem aed_retM {fn:Func}{K:AV->List Piece->Prop}{rs:List ResultVar}{vs:List AV}{m1 m':List Piece}{x:Exit}{D:Nat}(hr:fn.results=rs.toArray)(hm:m.Perm (.obj D (.deferred (some []))::m1))(h:Ress P N s e (.obj D (.deferred none)::m1) rs vs)(hx:x=.ret\/x=.normal)(hK:K (outOf vs) m')(hs:m'.Sublist m1) :
  AED N [{ target:=.collected D,args:=#[] }] x (bodyPostM Fence.wide 0 P fn (Back s K)) s e m:=fun ok w a hS0 ha0=>by
 have hS':=hS0.perm hm.symm
 have ho:=(hS'.at_ (.obj D (.deferred (some []))) (by simp)).1
 obtain⟨hS,g2⟩:=St.setObj (pre:=[]) (o':=.deferred none) hS' rfl
 have ha:=ha0.stp g2
 obtain⟨us,h1,h2⟩:=ress_run (w:=w.putObj D (.deferred none)) hS ha h
 have hlen:=h1.length
 have h3:(results fn a.tmps).run P (w.putObj D (.deferred none))=.ok (if hh:us.toArray.size=1 then us.toArray[0] else .tuple us.toArray) (w.putObj D (.deferred none)):=by
  have h5:results fn a.tmps=(do let vs <- fn.results.mapM (resF a);pure (if h:vs.size=1 then vs[0] else .tuple vs)):=by
   unfold results
   congr 2
  rw [h5,hr,Array.mapM_eq_mapM_toList]
  simp [h2]
 have h4:RV ok (w.putObj D (.deferred none)) (outOf vs) (if hh:us.toArray.size=1 then us.toArray[0] else .tuple us.toArray):=by
  match vs,us,h1,hlen with
  | [v],us,⟨u,r,e1,e2,e3⟩,_=>
   obtain rfl:=(show r=[] from e3)
   subst e1
   exact RV.of0 e2
  | [],us,h1,_=>
   obtain rfl:=(show us=[] from h1)
   exact⟨[],rfl,rfl⟩
  | v1::v2::vs,us,h1,hlen=>
   have:¬ us.toArray.size=1:=by simp [hlen]
   rw [dif_neg this]
   exact⟨us,rfl,h1⟩
 have hL:LeavesInM Fence.wide 0 P fn a.tmps (Back s K) [{ target:=.collected D,args:=#[] }] .returning w:=⟨by simp,.inl ⟨D,_,rfl,run_takeDeferred ho,_,h3,_,m',ok,_,hK,rfl,h4,hS.less (hs.cons _)⟩⟩
 rcases hx with rfl|rfl <;> exact hL
theorem spec_enterM {f:FuncId}{fn:Func}{c:Code}{args:List AV}{K:AV->List Piece->Prop}(hf:P.funcs[f]?=some fn)(hb:fn.body=some c)(hN:fn.ntmps=N)(hl':Nat.ble args.length N=true)
  (h:∀ s:Base,s.gl=gl->AC P N c (bodyPostM Fence.wide 0 P fn (Back s K)) s (argE 0 args) m):Spec P gl f args m K:=Spec.mk fun ok w cargs hS hv=>by
 have hl:args.length<=N:=nlb hl'
 have hcl:=hv.length
 refine callsIn_wide.1 (callsIn_of_wp_marks (n:=0) hf hb trivial ((wpIn_wide (n:=0)).2 ((h _ rfl).run ok w _ hS ⟨?_,rfl,?_⟩)))
 ·simp [hN];omega
 ·intro t v ht
  obtain⟨_,h2⟩:=argE_lk args 0 t v ht
  simp only [Nat.sub_zero] at h2
  obtain⟨u,h3,h4⟩:=hv.get h2
  have hlt:t < cargs.length:=(List.getElem?_eq_some_iff.1 h3).1
  have h5:cargs[t]=u:=(List.getElem?_eq_some_iff.1 h3).2
  have h6:=RV.of0 h4
  simpa [Array.getElem?_append,hlt,h5] using h6
end
end Av
