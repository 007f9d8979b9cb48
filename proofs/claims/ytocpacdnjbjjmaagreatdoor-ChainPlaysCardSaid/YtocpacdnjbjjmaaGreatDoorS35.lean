/- . -/
import Derived.RangeFuncRecord
import Derived.OrdersIn
import Derived.RangeFuncLeaves
import Derived.RangeFuncSeq
import Derived.Test.YtocpacdnjbjjmaaGreatDoorS34
set_option maxHeartbeats 64000000
namespace Av
open Go Go.RowKit Tw
abbrev Ro (l:Nat):Fence:=Fence.wide.inRound l
abbrev yv (l:Nat):AV:=.lit (.func (.yield l) #[] #[])
class NoOut (Q:Exit->Act->World->Prop):Prop where
 out:¬ LetsOut Q
instance {K:Act->World->Prop}{Q:Exit->Act->World->Prop}[h:NoOut Q]:NoOut (Exit.then K Q):=⟨fun⟨a,w,e⟩=>h.out ⟨a,w,e⟩⟩
instance {id:Nat}{Q:Exit->Act->World->Prop}[h:NoOut Q]:NoOut (Exit.inBlock id Q):=⟨fun⟨a,w,e⟩=>h.out ⟨a,w,e⟩⟩
instance {P:Program}{l:Nat}{R:Ending->World->Prop}:NoOut (roundPost P l R):=⟨fun⟨_,_,e⟩=>e⟩
instance : NoOut (fun _ _ _ => False) := ⟨fun ⟨_, _, e⟩ => e⟩
instance {P:Program}{fn:Func}{s:Base}{K:AV->List Piece->Prop}:NoOut (bodyPost P fn (Back s K)):=⟨fun⟨_,_,_,_,_,_,_,e,_⟩=>by cases e⟩
instance {P:Program}{F:Fence}{n:Nat}{fn:Func}{s:Base}{K:AV->List Piece->Prop}:NoOut (bodyPostM F n P fn (Back s K)):=⟨fun⟨_,_,_,_,_,_,_,e,_⟩=>by cases e⟩
instance {Q:Exit->Act->World->Prop}[h:NoOut Q]:NoOut (Exit.noGoto Q):=⟨fun⟨a,w,e⟩=>h.out ⟨a,w,e⟩⟩
def BB (o:Oper):Bool:=match o.op with
 | .defer _=>false
 | _=>true
theorem a1D {o:Oper}(h:BB o=true):∀ c,o.op≠.defer c:=fun c e=>by
 unfold BB at h;rw[e] at h;cases h
section
variable {P:Program} {F:Fence}
theorem We {o:Oper}{a:Act}{K:Act->World->Prop}{Q Q':Exit->Act->World->Prop}(hd:F.depth=none)(hc:∀ {f:FuncId} {args:Array Value} {w:World} {R:Ending->World->Prop},Calls P f args w R->CallsIn F 0 P f args w R)
  (hr:∀ {row:String} {args:Array Value} {w:World} {R:Value->World->Prop},Rows P row args w R->RowsIn F 0 P row args w R) (hQ:∀ chain a w,Q (.panic chain) a w->Q' (.panic chain) a w) (hO:LetsOut Q->LetsOut Q'):∀ {r:Result Go.Next},o.upon P a K Q r->o.uponIn F 0 P a K Q' r
 | .halt x w',h=>by cases x <;> first|exact hQ _ _ _ h|exact h
 | .ok x w',h=>by
  cases x with
  | enter f args=>
   refine⟨(fun e=>by rw[hd] at e;cases e),CallsIn.mono (hc h) fun e w h=>?_⟩;cases e
   ·exact h
   ·exact hQ _ _ _ h
   ·exact hO h
  | row row args=>exact⟨(fun e=>by rw[hd] at e;cases e),hr h⟩
  | round _ _ _ _ _=>exact(show False from h).elim
  | _=>exact h
theorem FW {ops:Array Oper}{Q Q':Exit->Act->World->Prop}(hf:∀ f,F.fn f)(hd:F.depth=none)(hc:∀ {f:FuncId} {args:Array Value} {w:World} {R:Ending->World->Prop},Calls P f args w R->CallsIn F 0 P f args w R)
  (hr:∀ {row:String} {args:Array Value} {w:World} {R:Value->World->Prop},Rows P row args w R->RowsIn F 0 P row args w R) (hQ:∀ chain a w,Q (.panic chain) a w->Q' (.panic chain) a w) (hO:¬ LetsOut Q) {rest:List Oper} :
  ∀ (l:List Oper) (a:Act) (w:World),l.all BB=true->(∀ a w,Q .normal a w->wpListIn F 0 P ops Q' rest a w)->wpList P ops Q l a w->wpListIn F 0 P ops Q' (l++rest) a w
 | [],a,w,_,hn,h=>hn a w h
 | o::l,a,w,ho,hn,h=>by
  rw[List.all_cons,bet] at ho;unfold wpList at h;rw[List.cons_append];unfold wpListIn;by_cases hw:Region.wanted o (yielded ops a.tmps)=true
  ·rw[if_pos hw] at h ⊢;rcases h with h|⟨_,h⟩
   ·refine⟨fun f _=>hf f,?_⟩;rw[Oper.semAt_eq _ _ _ (a1D ho.1)];have h':=Oper.wp_mono (fun a w=>FW hf hd hc hr hQ hO l a w ho.2 hn) h;exact We hd hc hr hQ (fun e=>absurd e hO) h'
   ·exact absurd h hO
  ·rw[if_neg hw] at h ⊢;exact⟨fun f _=>hf f,FW hf hd hc hr hQ hO l _ w ho.2 hn h⟩
theorem Nr {f:FuncId}{args:Array Value}{w:World}{R:Ending->World->Prop}(h:Calls P f args w R):CallsIn Fence.wide 0 P f args w R:=callsIn_wide.2 h
theorem a6o {l:Nat}{f:FuncId}{args:Array Value}{w:World}{R:Ending->World->Prop}(h:Calls P f args w R):CallsIn (Ro l) 0 P f args w R:=callsIn_wide.2 h
theorem QV {row:String}{args:Array Value}{w:World}{R:Value->World->Prop}(h:Rows P row args w R):RowsIn Fence.wide 0 P row args w R:=fun c cs _=>by
 obtain⟨v,w',h1,h2⟩:=h c cs;exact⟨v,w',h1,stepsIn_wide.2 h2⟩
theorem Zw {l:Nat}{row:String}{args:Array Value}{w:World}{R:Value->World->Prop}(h:Rows P row args w R):RowsIn (Ro l) 0 P row args w R:=QV h
end
section
variable {P:Program} {N:Nat} {ops:Array Oper} {Q:Exit->Act->World->Prop} {rest l:List Oper} {s:Base} {e:Env} {m:List Piece} {d:Nat} {ty:TypeId} {pos:String} {af:Array Edge} {gl:List (Nat × AV)} {L:Nat}
def BC (P:Program)(N L:Nat)(c:Code)(Q:Exit->Act->World->Prop)(s:Base)(e:Env)(m:List Piece):Prop:=∀ ok w a,St s ok m w->Sat N ok w e a->c.wpIn (Ro L) 0 P Q a w
theorem Oy {x y:Code}(h:BC P N L x (Exit.then (fun a w=>y.wpIn (Ro L) 0 P Q a w) Q) s e m):BC P N L (.seq x y) Q s e m:=fun ok w a hS ha=>wpIn_seq (h ok w a hS ha)
theorem a7b {id:Nat}{c:Code}(h:BC P N L c (Exit.inBlock id Q) s e m):BC P N L (.block id c) Q s e m:=fun ok w a hS ha=>wpIn_block (h ok w a hS ha)
theorem a6W (h:AE N .normal Q s e m):BC P N L .skip Q s e m:=fun ok w a hS ha=>wpIn_skip (h.run ok w a hS ha)
theorem a6X {id:Nat}(h:AE N (.exit id) Q s e m):BC P N L (.exit id) Q s e m:=fun ok w a hS ha=>wpIn_exit (h.run ok w a hS ha)
theorem a6Y {c:Operand}{x y:Code}(h:BC P N L x Q s e m)(hc:ev e c=some (.lit (.bool true)):=by exact rfl):BC P N L (.cond c x y) Q s e m:=fun ok w a hS ha=>wpIn_cond_true (ha.lit hc) (h ok w a hS ha)
theorem a7a {c:Operand}{x y:Code}(h:BC P N L y Q s e m)(hc:ev e c=some (.lit (.bool false)):=by exact rfl):BC P N L (.cond c x y) Q s e m:=fun ok w a hS ha=>wpIn_cond_false (ha.lit hc) (h ok w a hS ha)
theorem WQ {id:Nat}[hQ:NoOut Q](h:AL P N l.toArray Q s l e m)(hn:l.all BB=true:=by exact rfl):BC P N L (.region id l.toArray false) Q s e m:=fun ok w a hS ha=>by
 refine wpIn_region_lit ?_;have:=FW (F:=Ro L) (rest:=[]) (fun _=>trivial) rfl a6o Zw (fun _ _ _ h=>h) hQ.out l a w hn (fun a w h=>h) (h.run ok w a hS ha)
 rwa [List.append_nil] at this
theorem Ou {c:Code}{Q':Exit->Act->World->Prop}(h:BC P N L c Q' s e m):AE N .normal (Exit.then (fun a w=>c.wpIn (Ro L) 0 P Q' a w) Q) s e m:=AE.mk h
theorem a6Q {c:Code}{r:Loop}{m1:List Piece}{F:Exit->Act->World->Prop}(hm:m.Perm (.obj L (.loop r)::m1))(hr:r.state=.ready)(h:BC P N L c Q s e (.obj L (.loop { r with state:=.busy })::m1)) :
  AE N .normal (Exit.then (fun a₁ w₁=>∃ w₂,(Instr.beginRound L).run P w₁=.ok () w₂/\c.wpIn (Ro L) 0 P Q a₁ w₂) F) s e m:=AE.mk fun ok w a hS ha=>by
 have hS':=hS.perm hm.symm;have ho:=(hS'.at_ (.obj L (.loop r)) sm).1;obtain⟨g1,g2⟩:=St.setObj (pre:=[]) (o':=.loop { r with state:=.busy }) hS' rfl;exact⟨_,run_beginRound ho hr,h ok _ a g1 (ha.stp g2)⟩
theorem a8V {r:Loop}{m1:List Piece}{K:AV->List Piece->Prop}(hm:m.Perm (.obj L (.loop r)::m1))(hK:K (j3 true) (.obj L (.loop { r with state:=.ready,pending:=none })::m1)):AE N .normal (roundPost P L (Back s K)) s e m:=AE.mk fun ok w a hS ha=>by
 have hS':=hS.perm hm.symm;have ho:=(hS'.at_ (.obj L (.loop r)) sm).1;obtain⟨g1,g2⟩:=St.setObj (pre:=[]) (o':=.loop { r with state:=.ready,pending:=none }) hS' rfl;exact⟨_,_,run_endRound none ho,j3 true,_,ok,.bool true,hK,rfl,RV0.of_lit rfl,g1⟩
theorem a8U {r:Loop}{id:Nat}{m1:List Piece}{K:AV->List Piece->Prop}(hm:m.Perm (.obj L (.loop r)::m1))(hK:K (j3 false) (.obj L (.loop { r with state:=.done,pending:=some (.exit id) })::m1)):AE N (.exit id) (roundPost P L (Back s K)) s e m:=AE.mk fun ok w a hS ha=>by
 have hS':=hS.perm hm.symm;have ho:=(hS'.at_ (.obj L (.loop r)) sm).1;obtain⟨g1,g2⟩:=St.setObj (pre:=[]) (o':=.loop { r with state:=.done,pending:=some (.exit id) }) hS' rfl;exact⟨_,_,run_endRound (some (.exit id)) ho,j3 false,_,ok,.bool false,hK,rfl,RV0.of_lit rfl,g1⟩
def Yld (P:Program)(gl:List (Nat × AV))(ok0:Ok)(w0:World)(L:Nat)(args:List AV)(m:List Piece)(K:AV->List Piece->Prop):Prop:=
 ∀ ok w cargs,Stp ok0 w0 ok w->St (X6 gl m ok w) ok m w->RVs ok w args cargs->YieldAt Fence.wide 0 P L cargs.toArray w (Back (X6 gl m ok w) K)
theorem Sg {ok0:Ok}{w0:World}{e0:Env}{a0:Act}{r:Loop}{p:Nat}{x:AV}{m1:List Piece}{K:AV->List Piece->Prop}(h0:Sat N ok0 w0 e0 a0)(hr:r.tmps=a0.tmps)(hp:r.params=#[p])(hpN:Nat.blt p N=true)
  (h:∀ s:Base,s.gl=gl->BC P N L r.assign (Exit.then (fun a₁ w₁=>∃ w₂,(Instr.beginRound L).run P w₁=.ok () w₂/\r.body.wpIn (Ro L) 0 P (roundPost P L (Back s K)) a₁ w₂) (fun _ _ _=>False)) s ((p,x)::e0) (.obj L (.loop r)::m1)) :
  Yld P gl ok0 w0 L [x] (.obj L (.loop r)::m1) K:=fun ok w cargs hst hS hv=>by
 obtain⟨u,us,rfl,hu,h2⟩:=hv;obtain rfl:=(show us=[] from h2);have ho:=(hS.at_ (.obj L (.loop r)) sm).1;refine⟨_,_,_,_,run_yield ho (by rw[hp];rfl),roundIn_of_wpIn trivial ?_⟩;have ha:Sat N ok w ((p,x)::e0) (a0.put (some p) u):=(h0.stp hst).put (RV.of0 hu) hpN;have e1:({ tmps:=(r.params.zip #[u]).foldl (fun tmps (t,a)=>tmps.setIfInBounds t a) r.tmps,defers:=[] }:Act)=a0.put (some p) u:=by
  have hdf:a0.defers=[]:=h0.defers;rw[hp,hr];obtain⟨t0,d0⟩:=a0;subst hdf;simp[Act.put]
 have:=h (X6 gl (.obj L (.loop r)::m1) ok w) rfl ok w _ hS ha;rw[<- e1] at this;exact this
def AI (P:Program)(N:Nat)(ops:Array Oper)(Q:Exit->Act->World->Prop)(s:Base)(l:List Oper)(e:Env)(m:List Piece):Prop:=∀ ok w a,St s ok m w->Sat N ok w e a->wpListIn Fence.wide 0 P ops Q l a w
theorem Ru {id:Nat}(h:AI P N l.toArray Q s l e m):AC P N (.region id l.toArray false) Q s e m:=AC.mk fun ok w a hS ha=>(wpIn_wide (n:=0)).1 (wpIn_region_lit (h ok w a hS ha))
theorem a8P (h:AE N .normal Q s e m):AI P N ops Q s [] e m:=fun ok w a hS ha=>h.run ok w a hS ha
theorem Rc {pre:List Oper}{α:Type}(I:α->Env)(M:α->List Piece)(h1:AL P N ops (Exit.then (fun a w=>∃ z ok,Sat N ok w (I z) a/\St s ok (M z) w) (fun _ _ _=>False)) s pre e m)(h2:∀ z,AI P N ops Q s rest (I z) (M z))(hn:pre.all BB=true:=by exact rfl):AI P N ops Q s (pre++rest) e m:=fun ok w a hS ha=>
 FW (F:=Fence.wide) (Q:=Exit.then (fun a w=>∃ z ok,Sat N ok w (I z) a/\St s ok (M z) w) (fun _ _ _=>False)) (fun _=>trivial) rfl Nr QV (fun _ _ _ h=>h.elim) (NoOut.out) pre a w hn (fun a w hx=>by
  obtain⟨z,ok,g1,g2⟩:=hx;exact h2 z ok w a g2 g1) (h1.run ok w a hS ha)
theorem a8Q [hQ:NoOut Q](h:AL P N ops Q s l e m)(hn:l.all BB=true:=by exact rfl):AI P N ops Q s l e m:=fun ok w a hS ha=>by
 have:=FW (F:=Fence.wide) (rest:=[]) (fun _=>trivial) rfl Nr QV (fun _ _ _ h=>h) hQ.out l a w hn (fun a w h=>h) (h.run ok w a hS ha)
 rwa [List.append_nil] at this
theorem Rb {ok0:Ok}{w0:World}{x:Operand}{xs:List Operand}{ts:Array TypeId}{args:List AV}(m1 fr:List Piece){K:AV->List Piece->Prop}(hc:Yld P s.gl ok0 w0 L args m1 K)(hw:Stp ok0 w0 s.ok s.w)(h:∀ v m1',K v m1'->AI P N ops Q s rest ((d,v)::e) (m1'++fr))(hp:m.Perm (m1++fr))
  (h0:ev e x=some (yv L):=by exact rfl) (hx:L8 e xs=some args:=by exact rfl) (hn:args.all P7=true:=by exact rfl) (hd:Nat.blt d N=true:=by exact rfl):AI P N ops Q s (⟨some d,.call ⟨.value x,xs.toArray,ts⟩,ty,pos,af,none⟩::rest) e m:=fun ok w a hS ha=>by
 refine wpListIn_plain rfl fun K' hK=>?_;have hS':=hS.perm hp.symm;obtain⟨fn,tmps,assign,body,hy,hR⟩:=hc ok w _ (hw.trans hS.stp) hS'.lend (ha.evals hx hn);refine⟨fun _ _=>trivial,?_⟩;have hrun:(execOp a.eval ⟨some d,.call ⟨.value x,xs.toArray,ts⟩,ty,pos,af,none⟩).run P w=.ok (.round L fn tmps assign body) w:=by
  simpa[execOp,resolve,ha.lit h0,Deferred.ofValue,invoke] using hy
 have hsem:Oper.semAt Fence.wide.round a.eval ⟨some d,.call ⟨.value x,xs.toArray,ts⟩,ty,pos,af,none⟩=execOp a.eval ⟨some d,.call ⟨.value x,xs.toArray,ts⟩,ty,pos,af,none⟩:=Oper.semAt_eq _ _ _ (fun c e=>by cases e);rw[hsem,hrun,Oper.uponIn_round];refine⟨(fun e=>by cases e),RoundIn.mono hR fun x w' hx=>?_⟩;obtain⟨v,m',ok',cv,g1,rfl,g2,g3⟩:=hx;exact hK _ _ (h v m' g1 ok' w' _ (hS'.back g3) ((ha.stp g3.stp).put g2 hd))
theorem a6p {f:FuncId}{fn:Func}{c:Code}{args:List AV}{K:AV->List Piece->Prop}(hf:P.funcs[f]?=some fn)(hb:fn.body=some c)(hN:fn.ntmps=N)(hl':Nat.ble args.length N=true){ok:Ok}{w:World}{cargs:List Value}(hS:St (X6 gl m ok w) ok m w)(hv:RVs ok w args cargs)
  (h:AC P N c (bodyPost P fn (Back (X6 gl m ok w) K)) (X6 gl m ok w) (nI 0 args) m):Calls P f cargs.toArray w (Back (X6 gl m ok w) K):=by
 have hl:args.length<=N:=nlb hl';have hcl:=hv.length;refine calls_of_wp hf hb (h.run ok w _ hS ⟨?_,rfl,?_⟩)
 ·simp[hN];omega
 ·intro t v ht;obtain⟨_,h2⟩:=yR args 0 t v ht;simp only[Nat.sub_zero] at h2;obtain⟨u,h3,h4⟩:=hv.get h2;have hlt:t<cargs.length:=(List.getElem?_eq_some_iff.1 h3).1;have h5:cargs[t]=u:=(List.getElem?_eq_some_iff.1 h3).2;have h6:=RV.of0 h4;simpa[Array.getElem?_append,hlt,h5] using h6
abbrev BI (fn:FuncId)(a:Act)(ps:Array Tmp)(assign body:Code)(w:World):Loop:={ state:=.ready,pending:=none,fn,tmps:=a.tmps,params:=ps,assign,body,defers:=w.heap.size }
abbrev vU (w:World):List Deferred:=[{ target:=.collected w.heap.size,args:=#[] }]
theorem a9e {g:Operand}{ps:Array Tmp}{assign body:Code}{gf:FuncId}[hf:FnB P gf]{lb:List Value}(_:∀ v∈lb,v.oneCell'=true)
  (h:∀ ok w a fn,St s ok m w->Sat N ok w e a->∀ ok1 w1,Stp ok w ok1 w1->St s ok1 (.obj (w.heap.size+1) (.loop (BI fn a ps assign body w))::.obj w.heap.size (.deferred (some []))::m) w1->Sat N ok1 w1 e a ->
   Calls P gf ((.func (.yield (w.heap.size+1)) #[] #[])::lb).toArray w1 (fun x w2=>∃ v ok2 r' m2,x=.returned v/\r'.state≠.busy/\St s ok2 (.obj (w.heap.size+1) (.loop r')::m2) w2/\Stp ok1 w1 ok2 w2 /\
    ∀ ok3 w3,St s ok3 (.obj (w.heap.size+1) (.loop { r' with state:=.exhausted })::m2) w3->Stp ok2 w2 ok3 w3->(match r'.pending with
     | none=>Q .normal { a with defers:=vU w } w3
     | some c=>c.wp P Q { a with defers:=vU w } w3)))
  (h0:ev e g=some (D6 gf lb):=by exact rfl):AC P N (.rangeFunc g ps assign body) Q s e m:=AC.mk fun ok w a hS ha=>by
 refine(wpIn_wide (n:=0)).1 (wpIn_rangeFunc fun fn _=>?_);obtain⟨ok1,hS1,st1⟩:=hS.newObj (o:=.deferred (some [])) rfl;obtain⟨ok2,hS2,st2⟩:=hS1.newObj (o:=.loop (BI fn a ps assign body w)) rfl;have hsz:(w.alloc (.deferred (some []))).heap.size=w.heap.size+1:=World.size_alloc _ _;rw[hsz] at hS2;have hst:=st1.trans st2;have hcall:=h ok w a fn hS ha ok2 _ hst hS2 (ha.stp hst);have hev:a.eval g=.func (.func gf) #[] lb.toArray:=ha.lit h0;refine⟨w.heap.size+1,vU w,(w.alloc (.deferred (some []))).alloc (.loop (BI fn a ps assign body w)),{ target:=.fn (.func gf) lb.toArray,args:=#[.func (.yield (w.heap.size+1)) #[] #[]] },(w.alloc (.deferred (some []))).alloc (.loop (BI fn a ps assign body w)),gf,((.func (.yield (w.heap.size+1)) #[] #[])::lb).toArray,(w.alloc (.deferred (some []))).alloc (.loop (BI fn a ps assign body w)),run_enterLoop_outer fn a.tmps ps assign body,?_,fun _ _=>trivial,?_,(fun e=>by cases e),?_⟩;rotate_left 2
 ·refine CallsIn.mono (callsIn_wide.2 hcall) fun x w2 hx=>?_;obtain⟨v,ok3,r',m2,rfl,hb,hS3,st3,hk⟩:=hx;have ho:=(hS3.at_ (.obj (w.heap.size+1) (.loop r')) sm).1;obtain⟨g1,g2⟩:=St.setObj (pre:=[]) (o':=.loop { r' with state:=.exhausted }) hS3 rfl;refine⟨_,_,run_endLoop ho hb,?_⟩;have hk':=hk ok3 _ g1 g2;have hdf:vU w++a.defers=vU w:=by rw[ha.defers,List.append_nil]
  show (match r'.pending with|none=>Q .normal { a with defers:=vU w++a.defers } _|some c=>c.wpIn Fence.wide 0 P Q { a with defers:=vU w++a.defers } _);rw[hdf];cases hpd:r'.pending with
  | none=>rw[hpd] at hk';exact hk'
  | some c=>rw[hpd] at hk';exact(wpIn_wide (n:=0)).2 hk'
 ·have e1:resolve a.eval (rangeCall g (w.heap.size+1)) 0=Deferred.ofValue (a.eval g) #[.func (.yield (w.heap.size+1)) #[] #[]]:=by
   have hc:a.eval (.const (.func (.yield (w.heap.size+1)) #[] #[]))=.func (.yield (w.heap.size+1)) #[] #[]:=rfl;simp[resolve,hc]
  rw[e1,hev];simp[Deferred.ofValue]
 ·simp[invoke,hf.run]
theorem put_defers (a:Act)(d:Option Tmp)(v:Value):(a.put d v).defers=a.defers:=by cases d <;> rfl
theorem XJ {K:Act->World->Prop}(hK:∀ a w,K a w->a.defers=[]):∀ (l:List Oper) (a:Act) (w:World),a.defers≠[]->¬ wpList P ops (Exit.then K fun _ _ _=>False) l a w
 | [],a,w,hd,h=>hd (hK a w h)
 | o::l,a,w,hd,h=>by
  have ih:=XJ hK l;unfold wpList at h;by_cases hw:Region.wanted o (yielded ops a.tmps)=true
  ·rw[if_pos hw] at h;rcases h with h|⟨_,_,_,h⟩
   ·unfold Oper.wp at h;generalize (execOp a.eval o).run P w=r at h;cases r with
    | halt x w'=>cases x <;> exact h
    | ok x w'=>
     cases x with
     | value v=>exact ih _ _ (by rw[put_defers];exact hd) h
     | skip=>exact ih _ _ (by rw[put_defers];exact hd) h
     | enter f args=>
      obtain⟨e,w2,fr,hR,_⟩:=(show Calls P f args w' _ from h) [];cases e
      ·exact ih _ _ (by rw[put_defers];exact hd) hR
      ·exact hR
      ·obtain⟨_,_,hR⟩:=hR;exact hR
     | row row args=>
      obtain⟨v,w2,hR,_⟩:=(show Rows P row args w' _ from h) default [];exact ih _ _ (by rw[put_defers];exact hd) hR
     | defer d=>exact ih _ _ (by rw[put_defers];exact List.cons_ne_nil _ _) h
     | _=>exact h
   ·exact h.elim
  ·rw[if_neg hw] at h;exact ih _ _ (by rw[put_defers];exact hd) h
theorem PO {ds:List Deferred}{K:Act->World->Prop}(hK:∀ a w,K a w->a.defers=[]):∀ (l:List Oper) (a:Act) (w:World),wpList P ops (Exit.then K fun _ _ _=>False) l a w->wpList P ops (Exit.then (fun a' w'=>∃ a0:Act,a'={ a0 with defers:=ds }/\K a0 w') fun _ _ _=>False) l { a with defers:=ds } w
 | [],a,w,h=>⟨a,rfl,h⟩
 | o::l,a,w,h=>by
  have hput:∀ (a:Act) (v:Value),({ a with defers:=ds }:Act).put o.dst v={ a.put o.dst v with defers:=ds }:=fun a v=>by
   cases o.dst <;> rfl
  have hev:({ a with defers:=ds }:Act).eval=a.eval:=by
   funext x
   cases x <;> rfl
  unfold wpList at h ⊢;by_cases hw:Region.wanted o (yielded ops a.tmps)=true
  ·rw[if_pos hw] at h;rw[if_pos (show Region.wanted o (yielded ops ({ a with defers:=ds }:Act).tmps)=true from hw)];rcases h with h|⟨_,_,_,h⟩
   ·left
    unfold Oper.wp at h ⊢;rw[hev];generalize (execOp a.eval o).run P w=r at h ⊢;have key:∀ v w,wpList P ops (Exit.then K fun _ _ _=>False) l (a.put o.dst v) w->wpList P ops (Exit.then (fun a' w'=>∃ a0:Act,a'={ a0 with defers:=ds }/\K a0 w') fun _ _ _=>False) l (({ a with defers:=ds }:Act).put o.dst v) w:=fun v w h=>by
     rw[hput];exact PO hK l _ w h
    cases r with
    | halt x w'=>cases x <;> exact h
    | ok x w'=>
     cases x with
     | value v=>exact key v w' h
     | skip=>exact key _ w' h
     | enter f args=>
      refine Calls.mono (show Calls P f args w' _ from h) fun e w h=>?_;cases e
      ·exact key _ _ h
      ·exact h
      ·exact h
     | row row args=>exact Rows.mono (show Rows P row args w' _ from h) fun v w h=>key v w h
     | defer d=>exact(XJ hK l _ _ (by rw[put_defers];exact List.cons_ne_nil _ _) h).elim
     | _=>exact h
   ·exact h.elim
  ·rw[if_neg hw] at h;rw[if_neg (show ¬ Region.wanted o (yielded ops ({ a with defers:=ds }:Act).tmps)=true from hw),hput];exact PO hK l _ w h
def ACD (P:Program)(N:Nat)(ds:List Deferred)(c:Code)(Q:Exit->Act->World->Prop)(s:Base)(e:Env)(m:List Piece):Prop:=∀ ok w a,St s ok m w->Sat N ok w e a->c.wp P Q { a with defers:=ds } w
theorem Rp {ds:List Deferred}{x y:Code}(h:ACD P N ds x (Exit.then (fun a w=>y.wp P Q a w) Q) s e m):ACD P N ds (.seq x y) Q s e m:=fun ok w a hS ha=>wp_seq (h ok w a hS ha)
def AED (N:Nat)(ds:List Deferred)(x:Exit)(Q:Exit->Act->World->Prop)(s:Base)(e:Env)(m:List Piece):Prop:=∀ ok w a,St s ok m w->Sat N ok w e a->Q x { a with defers:=ds } w
theorem Rq {ds:List Deferred}(h:AED N ds .ret Q s e m):ACD P N ds .ret Q s e m:=fun ok w a hS ha=>wp_ret (h ok w a hS ha)
theorem OX {ds:List Deferred}{c:Code}{Q':Exit->Act->World->Prop}(h:ACD P N ds c Q' s e m):AED N ds .normal (Exit.then (fun a w=>c.wp P Q' a w) Q) s e m:=h
theorem a8S {ds:List Deferred}{id:Nat}(h:AED N ds .normal Q s e m):AED N ds .normal (Exit.inBlock id Q) s e m:=h
theorem Rs {ds:List Deferred}{id:Nat}{α:Type}(I:α->Env)(M:α->List Piece)(h:AL P N l.toArray (Exit.then (fun a w=>∃ z ok,Sat N ok w (I z) a/\St s ok (M z) w) fun _ _ _=>False) s l e m)(h2:∀ z,AED N ds .normal Q s (I z) (M z)):ACD P N ds (.region id l.toArray false) Q s e m:=fun ok w a hS ha=>by
 refine wp_region_lit (PN (fun x a' w' hx=>?_) _ _ _ (PO (ds:=ds) (fun a w ⟨_,_,g,_⟩=>g.defers) l a w (h.run ok w a hS ha)));cases x
 case normal=>
  obtain⟨a0,rfl,z,ok',g1,g2⟩:=hx;exact h2 z ok' w' a0 g2 g1
 all_goals exact hx.elim
theorem Re {fn:Func}{K:AV->List Piece->Prop}{rs:List ResultVar}{vs:List AV}{m1 m':List Piece}{x:Exit}{D:Nat}(hr:fn.results=rs.toArray)(hm:m.Perm (.obj D (.deferred (some []))::m1))(h:Ress P N s e (.obj D (.deferred none)::m1) rs vs)(hx:x=.ret\/x=.normal)(hK:K (I8 vs) m')(hs:m'.Sublist m1) :
  AED N [{ target:=.collected D,args:=#[] }] x (bodyPostM Fence.wide 0 P fn (Back s K)) s e m:=fun ok w a hS0 ha0=>by
 have hS':=hS0.perm hm.symm;have ho:=(hS'.at_ (.obj D (.deferred (some []))) sm).1;obtain⟨hS,g2⟩:=St.setObj (pre:=[]) (o':=.deferred none) hS' rfl;have ha:=ha0.stp g2;obtain⟨us,h1,h2⟩:=RL (w:=w.putObj D (.deferred none)) hS ha h;have hlen:=h1.length;have h3:(results fn a.tmps).run P (w.putObj D (.deferred none))=.ok (if hh:us.toArray.size=1 then us.toArray[0] else .tuple us.toArray) (w.putObj D (.deferred none)):=by
  have h5:results fn a.tmps=(do let vs <- fn.results.mapM (EX a);pure (if h:vs.size=1 then vs[0] else .tuple vs)):=by
   unfold results;congr 2
  rw[h5,hr,Array.mapM_eq_mapM_toList];simp[h2]
 have h4:RV ok (w.putObj D (.deferred none)) (I8 vs) (if hh:us.toArray.size=1 then us.toArray[0] else .tuple us.toArray):=by
  match vs,us,h1,hlen with
  | [v],us,⟨u,r,e1,e2,e3⟩,_=>
   obtain rfl:=(show r=[] from e3);subst e1;exact RV.of0 e2
  | [],us,h1,_=>
   obtain rfl:=(show us=[] from h1);exact⟨[],rfl,rfl⟩
  | v1::v2::vs,us,h1,hlen=>
   have:¬ us.toArray.size=1:=by simp[hlen]
   rw[dif_neg this];exact⟨us,rfl,h1⟩
 have hL:LeavesInM Fence.wide 0 P fn a.tmps (Back s K) [{ target:=.collected D,args:=#[] }] .returning w:=⟨sm,.inl ⟨D,_,rfl,run_takeDeferred ho,_,h3,_,m',ok,_,hK,rfl,h4,hS.less (hs.cons _)⟩⟩;rcases hx with rfl|rfl <;> exact hL
theorem Yo {f:FuncId}{fn:Func}{c:Code}{args:List AV}{K:AV->List Piece->Prop}(hf:P.funcs[f]?=some fn)(hb:fn.body=some c)(hN:fn.ntmps=N)(hl':Nat.ble args.length N=true)
  (h:∀ s:Base,s.gl=gl->AC P N c (bodyPostM Fence.wide 0 P fn (Back s K)) s (nI 0 args) m):Spec P gl f args m K:=Spec.mk fun ok w cargs hS hv=>by
 have hl:args.length<=N:=nlb hl';have hcl:=hv.length;refine callsIn_wide.1 (callsIn_of_wp_marks (n:=0) hf hb trivial ((wpIn_wide (n:=0)).2 ((h _ rfl).run ok w _ hS ⟨?_,rfl,?_⟩)))
 ·simp[hN];omega
 ·intro t v ht;obtain⟨_,h2⟩:=yR args 0 t v ht;simp only[Nat.sub_zero] at h2;obtain⟨u,h3,h4⟩:=hv.get h2;have hlt:t<cargs.length:=(List.getElem?_eq_some_iff.1 h3).1;have h5:cargs[t]=u:=(List.getElem?_eq_some_iff.1 h3).2;have h6:=RV.of0 h4;simpa[Array.getElem?_append,hlt,h5] using h6
end
end Av

namespace Go.Proofs.YtocpacdnjbjjmaaGreatDoor
open Go Go.RowKit Tw Av Go.Proofs.Tryz
theorem Rf {N:Nat}{Q:Exit->Act->World->Prop}{s:Av.Base}{e:Av.Env}{m:List Av.Piece}{ds:List Deferred}(h:AED N ds .ret Q s e m):AED N ds .ret (Exit.noGoto Q) s e m:=h
theorem a6Z {P:Program}{N L:Nat}{Q:Exit->Act->World->Prop}{s:Av.Base}{e:Av.Env}{m:List Av.Piece}{c:Operand}{x y:Code}{b:Bool}(hc:Av.ev e c=some (.lit (.bool (!b))))(h1:b=true->BC P N L y Q s e m)(h2:b=false->BC P N L x Q s e m):BC P N L (.cond c x y) Q s e m:=by
 cases b
 ·exact a6Y (h2 rfl) hc
 ·exact a7a (h1 rfl) hc
theorem a3a {Q:Exit->Act->World->Prop}{id:Nat}{a:Act}{w:World}(h:Q .normal a w):Exit.inBlock id Q (.exit id) a w:=by
 simp only[Exit.inBlock,if_true];exact h
theorem Gx {s:Bs}:aP (47::s)=0:=by
 unfold aP;rw[List.findIdx_cons];rfl
theorem Gw {c:UInt8}{s:Bs}(h:c≠47):aP (c::s)=aP s+1:=by
 unfold aP;rw[List.findIdx_cons,dZ h];rfl
theorem ZK:∀ {s:Bs},aP s<s.length->A8 s=s.take (aP s)::A8 (s.drop (aP s+1))
 | [],h=>by simp at h
 | c::s,h=>by
  by_cases hc:c=47
  ·subst hc;rw[Gx,A8,if_pos rfl];rfl
  ·rw[Gw hc] at h ⊢;rw[A8,if_neg hc,ZK (s:=s) (by simpa using h)];rfl
theorem ZJ:∀ {s:Bs},¬ aP s<s.length->A8 s=[s]
 | [],_=>rfl
 | c::s,h=>by
  by_cases hc:c=47
  ·subst hc;rw[Gx] at h;simp at h
  ·rw[Gw hc] at h;rw[A8,if_neg hc,ZJ (s:=s) (by simpa using h)];rfl
abbrev aB (gs gp gv:Nat)(s:Bs):List Av.Piece:=[.var gv 3 (int 0),.var gp 9 (str [47]),.var gs 9 (str s)]
theorem Yj {s:Bs}:Av.Spec prog GL 350 [str s,str [47]] [] fun u m=>∃ gs gp gv,u=D6 435 [.pointer (some ⟨gp,0,none⟩),.pointer (some ⟨gs,0,none⟩),.pointer (some ⟨gv,0,none⟩)]/\m=aB gs gp gv s:=by
 have h1:Av.Spec prog GL 403 [str s,str [47],int 0] [] fun u m=>∃ gs gp gv,u=D6 435 [.pointer (some ⟨gp,0,none⟩),.pointer (some ⟨gs,0,none⟩),.pointer (some ⟨gv,0,none⟩)]/\m=aB gs gp gv s:=by
  refine qE func403 rfl ntmps403 rfl (fun _ hs=>?_);repeat' first|refine Vz ?_|intro _
  rename_i gs gp gv;refine eY (vs:=[.pointer (some ⟨gp,0,none⟩),.pointer (some ⟨gs,0,none⟩),.pointer (some ⟨gv,0,none⟩)]) ?_;repeat' first|refine Vz ?_|intro _
  refine o5 _ ⟨gs,gp,gv,rfl,rfl⟩ ?_;exact List.Sublist.refl _
 refine qE func350 rfl ntmps350 rfl (fun _ hs=>?_);repeat' first|refine Vz ?_|intro _
 refine M3 (args:=[str s,str [47],int 0]) [] _ (by rw[hs];exact h1) (fun u m1 hh=>?_) lpr;obtain⟨gs,gp,gv,rfl,rfl⟩:=hh;repeat' first|refine Vz ?_|intro _
 refine o5 _ ⟨gs,gp,gv,rfl,rfl⟩ ?_;exact r9
theorem Yi {ok0:Ok}{w0:World}{L gs gp gv:Nat}{s:Bs}{J:List Bs->List Av.Piece}{G:List Bs->Prop}{B:List Bs->List Av.Piece->Prop}
  (hY:∀ pre x,G pre->pre++[x] <+: A8 s->Yld prog GL ok0 w0 L [str x] (J pre) fun v m'=>(v=j3 true/\G (pre++[x])/\m'=J (pre++[x]))\/(v=j3 false/\B (pre++[x]) m')) (hG:G []) (hl:s.length<=1000000000) {ok:Ok} {w:World} (hw:Stp ok0 w0 ok w) (hS:St (X6 GL (aB gs gp gv s++J []) ok w) ok (aB gs gp gv s++J []) w) :
  Calls prog 435 #[.func (.yield L) #[] #[],.pointer (some ⟨gp,0,none⟩),.pointer (some ⟨gs,0,none⟩),.pointer (some ⟨gv,0,none⟩)] w (Back (X6 GL (aB gs gp gv s++J []) ok w) fun _ m'=>∃ r,(G (A8 s)/\m'=aB gs gp gv r++J (A8 s))\/∃ pre mx,pre <+: A8 s/\B pre mx/\m'=aB gs gp gv r++mx):=by
 refine a6p (gl:=GL) (m:=aB gs gp gv s++J []) (args:=[yv L,ptr gp,ptr gs,ptr gv]) (cargs:=[.func (.yield L) #[] #[],.pointer (some ⟨gp,0,none⟩),.pointer (some ⟨gs,0,none⟩),.pointer (some ⟨gv,0,none⟩)]) func435 rfl ntmps435 rfl hS ⟨_,_,rfl,RV0.of_lit rfl,_,_,rfl,RV0.of_lit rfl,_,_,rfl,RV0.of_lit rfl,_,_,rfl,RV0.of_lit rfl,rfl⟩ ?_;have Y4:Stp ok0 w0 (X6 GL (aB gs gp gv s++J []) ok w).ok (X6 GL (aB gs gp gv s++J []) ok w).w:=hw;have hs:(X6 GL (aB gs gp gv s++J []) ok w).gl=GL:=rfl;generalize X6 GL (aB gs gp gv s++J []) ok w=sB at Y4 hs ⊢;clear hS;repeat' first|refine Yz ?_|intro _
 rw[dZ (show ¬ ((([47]:Bs).length:Nat):Int)=0 by decide)];repeat' first|refine Yz ?_|intro _
 refine z8 (α:=List Bs × Bs) (fun q=>[(0,yv L),(1,ptr gp),(2,ptr gs),(3,ptr gv)]) (fun q=>aB gs gp gv q.2++J q.1) (fun q=>A8 s=q.1++A8 q.2/\G q.1/\q.2.length<=s.length) (fun q=>q.2.length) ([],s) ⟨rfl,rfl,rfl,rfl,trivial⟩ slr ⟨rfl,hG,Nat.le_refl _⟩ ?_;rintro⟨pre,r⟩ ⟨h1,h2,h3⟩;dsimp only at h1 h2 h3 ⊢;refine Rw ?_;repeat refine CZ ?_
 refine OZ ?_;repeat' (first|refine V7 ?_|refine R9 ?_|refine bZ ?_|intro _|simp only[List.set]|fail)
 refine j4 (CX ?_);repeat refine CZ ?_
 refine OZ ?_;repeat' (first|refine V7 ?_|refine R9 ?_|refine bZ ?_|intro _|simp only[List.set]|fail)
 refine j4 (CX ?_);repeat refine CZ ?_
 by_cases hi:aP r<r.length
 ·have e1:mX r=aP r:=by unfold mX;rw[if_pos hi]
  rw[e1];refine wJ ?_;refine Rt ?_;refine CX ?_;repeat refine CZ ?_
  refine OZ ?_;have e2:A8 s=pre++[r.take (aP r)]++A8 (r.drop (aP r+1)):=by rw[h1,ZK hi,laa];rfl
  repeat' (first|refine V7 ?_|refine R9 ?_|refine bZ ?_|intro _|simp only[List.set]|fail)
  refine Q7 0 (aP r) ?_;repeat' (first|refine V7 ?_|refine R9 ?_|refine bZ ?_|intro _|simp only[List.set]|fail)
  refine j4 (CX ?_);repeat refine CZ ?_
  refine Ru ?_;refine Rc (α:=Unit) (fun _=>[(39,yv L),(40,str (r.take (aP r))),(7,int (aP r)),(0,yv L),(1,ptr gp),(2,ptr gs),(3,ptr gv)]) (fun _=>aB gs gp gv r++J pre) ?_ (fun _=>?_) (pre:=[_,_])
  ·repeat' (first|refine V7 ?_|refine R9 ?_|refine bZ ?_|intro _|simp only[List.set]|fail)
   exact j4 (fO () (by rw[List.drop_zero];exact⟨rfl,rfl,rfl,rfl,rfl,rfl,rfl,trivial⟩) slr)
  refine Rb (J pre) (aB gs gp gv r) (by rw[hs];exact hY pre _ h2 ⟨_,e2.symm⟩) Y4 (fun v m1' hv=>?_) List.perm_append_comm;refine a8Q ?_;refine nJ (fun ok w hS=>hS.perm (m':=aB gs gp gv r++m1') List.perm_append_comm) ?_;rcases hv with⟨rfl,h4,rfl⟩|⟨rfl,h4⟩
  rotate_left
  ·repeat' first|refine Yz ?_|intro _
   refine o5 (aB gs gp gv r++m1') ⟨r,.inr ⟨_,m1',⟨_,e2.symm⟩,h4,rfl⟩⟩ slr
  have hl1:([47]:Bs).length=1:=rfl;repeat' first|refine Yz ?_|intro _
  refine Q7 (aP r+1) r.length ?_;rw[List.take_length];repeat' first|refine Yz ?_|intro _
  refine o6 (pre++[r.take (aP r)],r.drop (aP r+1)) ⟨rfl,rfl,rfl,rfl,trivial⟩ slr ⟨e2,h4,by simp;omega⟩ (by simp;omega)
 ·have e1:mX r=-1:=by unfold mX;rw[if_neg hi]
  have e2:A8 s=pre++[r]:=by rw[h1,ZJ hi]
  rw[e1];refine tH ?_;refine Rv ?_;repeat' (first|refine Rh ?_|refine Ri ?_|refine WX ?_|refine CX ?_)
  refine Ru ?_;refine Rc (α:=Unit) (fun _=>[(49,yv L),(50,str r)]) (fun _=>aB gs gp gv r++J pre) ?_ (fun _=>?_) (pre:=[_,_])
  ·repeat' (first|refine V7 ?_|refine R9 ?_|refine bZ ?_|intro _|simp only[List.set]|fail)
   exact j4 (fO () ⟨rfl,rfl,trivial⟩ slr)
  refine Rb (J pre) (aB gs gp gv r) (by rw[hs];exact hY pre _ h2 (by rw[e2];exact List.prefix_refl _)) Y4 (fun v m1' hv=>?_) List.perm_append_comm;refine a8P ?_;refine nM (fun ok w hS=>hS.perm (m':=aB gs gp gv r++m1') List.perm_append_comm) ?_;rcases hv with⟨rfl,h4,rfl⟩|⟨rfl,h4⟩
  ·exact yZ rfl uB (.inr rfl) ⟨r,.inl ⟨by rw[e2];exact h4,by rw[e2]⟩⟩ slr
  ·exact yZ rfl uB (.inr rfl) ⟨r,.inr ⟨_,m1',by rw[e2];exact List.prefix_refl _,h4,rfl⟩⟩ slr
theorem a5n {x:Bs}{g:Nat}{n:Int}(_:x.length<=1000000000)(hn:0<=n/\n<=1000000000):Av.Spec prog GL 349 [str x,ptr g] [.var g 3 (int n)] fun u m=>u=j3 (H9 x&&decide (n+1<=5))/\m=[.var g 3 (int (n+1))]:=by
 refine qE func349 rfl ntmps349 rfl (fun _ hs=>?_);repeat' first|refine Yz ?_|intro _
 cases h:H9 x
 ·repeat' first|refine Yz ?_|intro _
  refine o5 _ ⟨rfl,rfl⟩ ?_;exact r9
 ·repeat' first|refine Yz ?_|intro _
  refine o5 _ ⟨rfl,rfl⟩ ?_;exact r9
theorem a1b {α:Type}{a:List α}{l n e r d:α}:(a++[l,n,e,r,d]++[]).Perm (l::d::(a++[e,r,n])):=by
 rw[List.append_nil];refine List.perm_append_comm.trans (List.Perm.trans ?_ (((List.perm_append_comm (l₁:=[e,r,n]) (l₂:=a)).cons d).cons l));refine List.Perm.cons _ ?_;exact(List.Perm.swap e n _).trans (((List.Perm.swap r n _).cons e).trans ((((List.Perm.swap d n _).cons r).cons e).trans (((List.Perm.swap d r _).cons e).trans (List.Perm.swap d e _))))
instance b4J {s:Bs}:Ans prog GL 296 [str s] (s.length<=1000000000) (j3 (W9 s)):=⟨fun hl=>by
 refine Yo func296 rfl ntmps296 rfl (fun sB hs=>?_);repeat' first|refine Yz ?_|intro _
 rename_i gn gr;refine eY (vs:=[.pointer (some ⟨gn,0,none⟩)]) ?_;repeat' first|refine Yz ?_|intro _
 refine M3 (args:=[str s,str [47]]) [] _ (by rw[hs];exact Yj) (fun u m1 hh=>?_) lpr;obtain⟨gs,gp,gv,rfl,rfl⟩:=hh;repeat' first|refine Yz ?_|intro _
 rename_i ge;have hG0:([]:List Bs).all H9=true/\([]:List Bs).length<=5:=⟨rfl,dc⟩;refine a9e (gf:=435) (lb:=[.pointer (some ⟨gp,0,none⟩),.pointer (some ⟨gs,0,none⟩),.pointer (some ⟨gv,0,none⟩)]) (by simp[Value.oneCell']) (fun ok w a fn hS ha ok1 w1 st1 hS1 ha1=>?_);generalize hr0:BI fn a _ _ _ w=r0 at hS1 ⊢;have e1:r0.state=.ready:=by rw[<- hr0]
 have e2:r0.pending=none:=by rw[<- hr0]
 have e3:r0.tmps=a.tmps:=by rw[<- hr0]
 have e4:r0.params=#[13]:=by rw[<- hr0]
 have e5:{ { r0 with state:=.busy } with state:=.ready,pending:=none }=r0:=by rw[<- hr0]
 generalize hD:w.heap.size=D at hS1 ⊢;have hS2:=hS1.perm (m':=(aB gs gp gv s++[.obj (D+1) (.loop r0),.var gn 3 (int 0),.var ge 263 (D6 349 [.pointer (some ⟨gn,0,none⟩)]),.var gr 4 (j3 (decide (((s.length:Nat):Int)<=200))),.obj D (.deferred (some []))])++[]) a1b;have hIt:=Yi (ok0:=ok1) (w0:=w1) (L:=D+1) (gs:=gs) (gp:=gp) (gv:=gv) (s:=s)
  (J:=fun pre=>[.obj (D+1) (.loop r0),.var gn 3 (int pre.length),.var ge 263 (D6 349 [.pointer (some ⟨gn,0,none⟩)]),.var gr 4 (j3 (decide (((s.length:Nat):Int)<=200))),.obj D (.deferred (some []))])
  (G:=fun pre=>pre.all H9=true/\pre.length<=5)
  (B:=fun pre m'=>¬ (pre.all H9=true/\pre.length<=5)/\m'=[.obj (D+1) (.loop { { r0 with state:=.busy } with state:=.done,pending:=some (.exit 0) }),.var gn 3 (int pre.length),.var ge 263 (D6 349 [.pointer (some ⟨gn,0,none⟩)]),.var gr 4 (j3 false),.obj D (.deferred (some []))])
  (fun pre x hG hpx=>?_) hG0 hl (Stp.refl _ _) (by rw[<- hs];exact hS2.lend)
 rotate_left
 ·have hxm:x∈A8 s:=hpx.subset sm;have hxl:x.length<=1000000000:=Nat.le_trans (QH hxm) hl;have e6:=congrArg Loop.assign hr0.symm;have e7:=congrArg Loop.body hr0.symm;dsimp only at e6 e7;refine Sg (N:=19) (p:=13) ha1 e3 e4 rfl (fun s2 hs2=>?_);rw[e6,e7];refine WQ ?_;repeat' (first|refine V7 ?_|refine R9 ?_|refine bZ ?_|intro _|simp only[]|fail)
  refine j4 (a6Q lpr e1 ?_);refine a7b (Oy (WQ ?_));repeat' (first|refine V7 ?_|refine R9 ?_|refine bZ ?_|intro _|simp only[List.set]|fail)
  refine kP (args:=[str x]) (cs:=[.pointer (some ⟨gn,0,none⟩)]) [.var gn 3 (int pre.length)] [.obj (D+1) (.loop { r0 with state:=.busy }),.var ge 263 (D6 349 [.pointer (some ⟨gn,0,none⟩)]),.var gr 4 (j3 (decide (((s.length:Nat):Int)<=200))),.obj D (.deferred (some []))] (by rw[hs2];exact a5n hxl ⟨om,by have:=hG.2;omega⟩) (fun u m1 hh=>?_) (List.Perm.swap _ _ _);obtain⟨rfl,rfl⟩:=hh;repeat' (first|refine V7 ?_|refine R9 ?_|refine bZ ?_|intro _|simp only[List.set]|fail)
  refine j4 (Ou (a6Z (b:=H9 x&&decide (((pre.length:Nat):Int)+1<=5)) rfl (fun hb=>?_) (fun hb=>?_)))
  ·refine a6W (Rj (a8V (r:={ r0 with state:=.busy }) (m1:=[.var gn 3 (int (((pre.length:Nat):Int)+1)),.var ge 263 (D6 349 [.pointer (some ⟨gn,0,none⟩)]),.var gr 4 (j3 (decide (((s.length:Nat):Int)<=200))),.obj D (.deferred (some []))]) (List.Perm.swap _ _ _) (.inl ⟨rfl,?_,?_⟩)))
   ·rw[bet,decide_eq_true_iff] at hb;rw[List.all_append,hG.1];refine⟨by simp[hb.1],?_⟩;rw[lla,List.length_singleton];omega
   ·rw[e5,show (((pre++[x]).length:Nat):Int)=((pre.length:Nat):Int)+1 by simp]
  ·refine Oy (WQ ?_);repeat' (first|refine V7 ?_|refine R9 ?_|refine bZ ?_|intro _|simp only[List.set]|fail)
   refine j4 (Ou (a6X (WX (a8U (r:={ r0 with state:=.busy }) (m1:=[.var gn 3 (int (((pre.length:Nat):Int)+1)),.var ge 263 (D6 349 [.pointer (some ⟨gn,0,none⟩)]),.var gr 4 (j3 false),.obj D (.deferred (some []))]) (List.Perm.swap _ _ _) (.inr ⟨rfl,?_,?_⟩)))))
   ·rintro⟨h1,h2⟩;rw[List.all_append,bet] at h1;rw[lla,List.length_singleton] at h2;have h3:H9 x=true:=by simpa using h1.2
    rw[h3,Bool.true_and] at hb;have:=of_decide_eq_false hb;omega
   ·rw[show (((pre++[x]).length:Nat):Int)=((pre.length:Nat):Int)+1 by simp];dsimp only;rw[e6,e7]
 refine Calls.mono hIt fun x w2 hx=>?_;obtain⟨v,m',ok',cv,⟨r,hK⟩,rfl,hv,hSt⟩:=hx;have hSt':=hS2.back (fr:=[]) (by rw[hs];exact hSt);rw[List.append_nil] at hSt';have hmk:vU w=[{ target:=.collected D,args:=#[] }]:=by rw[<- hD]
 rcases hK with⟨⟨g1,g2⟩,rfl⟩|⟨pre,mx,hp,⟨hn,rfl⟩,rfl⟩
 ·refine⟨cv,ok',r0,_,rfl,by rw[e1];decide,hSt'.perm List.perm_middle.symm,hSt.stp,fun ok3 w3 hS3 st3=>?_⟩;rw[e2,hmk];dsimp only;refine(?_:AED 19 [{ target:=.collected D,args:=#[] }] .normal _ sB _ _) ok3 w3 a hS3 (((ha.stp st1).stp hSt.stp).stp st3);refine a8S ?_;refine OX (Rp (Rs (α:=Unit) (fun _=>[(2,j3 (decide (((s.length:Nat):Int)<=200)))]) (fun _=>.obj (D+1) (.loop { r0 with state:=.exhausted })::(aB gs gp gv r++[.var gn 3 (int (A8 s).length),.var ge 263 (D6 349 [.pointer (some ⟨gn,0,none⟩)]),.var gr 4 (j3 (decide (((s.length:Nat):Int)<=200))),.obj D (.deferred (some []))])) ?_ (fun _=>?_)))
  ·repeat' (first|refine V7 ?_|refine R9 ?_|refine bZ ?_|intro _|simp only[List.set]|fail)
   exact j4 (fO () ⟨rfl,trivial⟩ slr)
  refine OX (Rq (Rf ?_));refine Re (D:=D) (m1:=.obj (D+1) (.loop { r0 with state:=.exhausted })::(aB gs gp gv r++[.var gn 3 (int (A8 s).length),.var ge 263 (D6 349 [.pointer (some ⟨gn,0,none⟩)]),.var gr 4 (j3 (decide (((s.length:Nat):Int)<=200)))])) rfl ?_ (zZ (kY rfl rfl) uB) (.inl rfl) ⟨?_,rfl⟩ (List.nil_sublist _)
  ·exact List.perm_append_singleton _ (.obj (D+1) (.loop { r0 with state:=.exhausted })::(aB gs gp gv r++[.var gn 3 (int (A8 s).length),.var ge 263 (D6 349 [.pointer (some ⟨gn,0,none⟩)]),.var gr 4 (j3 (decide (((s.length:Nat):Int)<=200)))]))
  unfold W9;rw[g1,dT g2];rw[show decide (((s.length:Nat):Int)<=200)=decide (s.length<=200) from decide_eq_decide.2 om];simp[I8]
 ·refine⟨cv,ok',{ { r0 with state:=.busy } with state:=.done,pending:=some (.exit 0) },_,rfl,(fun h=>by cases h),hSt'.perm List.perm_middle.symm,hSt.stp,fun ok3 w3 hS3 st3=>?_⟩;rw[hmk];refine wp_exit ?_;refine a3a ?_;refine(?_:AED 19 [{ target:=.collected D,args:=#[] }] .normal _ sB _ _) ok3 w3 a hS3 (((ha.stp st1).stp hSt.stp).stp st3);refine OX (Rp (Rs (α:=Unit) (fun _=>[(2,j3 false)]) (fun _=>.obj (D+1) (.loop { { { r0 with state:=.busy } with state:=.done,pending:=some (.exit 0) } with state:=.exhausted })::(aB gs gp gv r++[.var gn 3 (int pre.length),.var ge 263 (D6 349 [.pointer (some ⟨gn,0,none⟩)]),.var gr 4 (j3 false),.obj D (.deferred (some []))])) ?_ (fun _=>?_)))
  ·repeat' (first|refine V7 ?_|refine R9 ?_|refine bZ ?_|intro _|simp only[]|fail)
   exact j4 (fO () ⟨rfl,trivial⟩ slr)
  refine OX (Rq (Rf ?_));refine Re (D:=D) (m1:=.obj (D+1) (.loop { { { r0 with state:=.busy } with state:=.done,pending:=some (.exit 0) } with state:=.exhausted })::(aB gs gp gv r++[.var gn 3 (int pre.length),.var ge 263 (D6 349 [.pointer (some ⟨gn,0,none⟩)]),.var gr 4 (j3 false)])) rfl ?_ (zZ (kY rfl rfl) uB) (.inl rfl) ⟨?_,rfl⟩ (List.nil_sublist _)
  ·exact List.perm_append_singleton _ (.obj (D+1) (.loop { { { r0 with state:=.busy } with state:=.done,pending:=some (.exit 0) } with state:=.exhausted })::(aB gs gp gv r++[.var gn 3 (int pre.length),.var ge 263 (D6 349 [.pointer (some ⟨gn,0,none⟩)]),.var gr 4 (j3 false)]))
  have hd:W9 s=false:=by
   by_cases h1:(A8 s).all H9=true/\(A8 s).length<=5
   ·refine(hn ⟨?_,Nat.le_trans hp.length_le h1.2⟩).elim;rw[List.all_eq_true] at h1 ⊢;exact fun y hy=>h1.1 y (hp.subset hy)
   ·unfold W9;cases h2:(A8 s).all H9
    ·simp
    ·have:¬ (A8 s).length<=5:=fun h=>h1 ⟨h2,h⟩;simp[this]
  rw[hd];rfl⟩
end Go.Proofs.YtocpacdnjbjjmaaGreatDoor
