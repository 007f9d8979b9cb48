/- . -/
import Derived.RangeFuncRecord
import Derived.OrdersIn
import Derived.RangeFuncLeaves
import Derived.RangeFuncSeq
import Derived.Test.YtgcmdlboancepaaGreatDoorQ16
namespace Av
open Go Go.RowKit Tw
section
variable {g i:Nat}{l:Bs}{x:Operand}
def kV (l:Bs)(i:Nat):Nat × Nat:=Utf8.decode ⟨l.toArray⟩ i
theorem a5c (l:Bs)(i:Nat):(⟨l.toArray⟩:ByteArray).get! i=l.getD i 0:=by
 show (l.toArray)[i]! = _;simp[List.getD];rfl
theorem Ev (hi:i<l.length):1<=(kV l i).2/\i+(kV l i).2<=l.length /\
  (((l.getD i 0).toNat<128/\(kV l i).1=(l.getD i 0).toNat/\(kV l i).2=1)\/(128<=(l.getD i 0).toNat/\128<=(kV l i).1/\∀ k,0<k->k<(kV l i).2->128<=(l.getD (i+k) 0).toNat)):=by
 unfold kV Utf8.decode;simp only[a5c,tK,Nat.add_zero,Utf8.runeError];have hb:=UInt8.toNat_lt (l.getD i 0);generalize (l.getD i 0).toNat=b0 at *;have key:∀ k,(l.getD (i+k) 0).toNat=(l.getD (i+k) 0).toNat:=λ_=>rfl;split
 ·rename_i h;exact⟨om,om,.inl ⟨h,rfl,rfl⟩⟩
 rename_i h;have one:∀ c:Nat,128<=c->1<=(c,1).2/\i+(c,1).2<=l.length/\((b0<128/\(c,1).1=b0/\(c,1).2=1)\/(128<=b0/\128<=(c,1).1/\∀ k,0<k->k<(c,1).2->128<=(l.getD (i+k) 0).toNat)):=
  λc hc=>⟨Nat.le_refl _,by simp only;omega,.inr ⟨om,hc,λk h1 h2=>by simp only at h2;omega⟩⟩
 split
 ·rename_i h1;simp only[Bool.and_eq_true,decide_eq_true_eq,beq_iff_eq] at h1;obtain⟨h1,h2,h3⟩:=h1;split
  ·rename_i h4;refine⟨by simp only;omega,by simp only;omega,.inr ⟨om,by simp only;omega,λk g1 g2=>?_⟩⟩;simp only at g2;obtain rfl:k=1:=by omega
   omega
  exact one _ dc
 split
 ·rename_i h1;simp only[Bool.and_eq_true,decide_eq_true_eq,beq_iff_eq] at h1;obtain⟨⟨h1,h2,h3⟩,h4,h5⟩:=h1;split
  ·rename_i h6;simp only[Bool.and_eq_true,decide_eq_true_eq,ge_iff_le] at h6;refine⟨by simp only;omega,by simp only;omega,.inr ⟨om,by simp only;omega,λk g1 g2=>?_⟩⟩;simp only at g2;rcases (by omega:k=1\/k=2) with rfl|rfl <;> omega
  exact one _ dc
 split
 ·rename_i h1;simp only[Bool.and_eq_true,decide_eq_true_eq,beq_iff_eq] at h1;obtain⟨⟨⟨h1,h2,h3⟩,h4,h5⟩,h6,h7⟩:=h1;split
  ·rename_i h8;simp only[Bool.and_eq_true,decide_eq_true_eq,ge_iff_le] at h8;refine⟨by simp only;omega,by simp only;omega,.inr ⟨om,by simp only;omega,λk g1 g2=>?_⟩⟩;simp only at g2;rcases (by omega:k=1\/k=2\/k=3) with rfl|rfl|rfl <;> omega
  exact one _ dc
 exact one _ dc
theorem a0W {c:Nat}(hi:i<l.length)(hc:c<128):((kV l i).1=c↔(l.getD i 0).toNat=c)/\((kV l i).1≠c->∀ j,i<=j->j<i+(kV l i).2->(l.getD j 0).toNat≠c):=by
 obtain⟨h1,h2,h3⟩:=Ev hi;rcases h3 with⟨h3,h4,h5⟩|⟨h3,h4,h5⟩
 ·refine⟨om,λhne j g1 g2=>?_⟩;obtain rfl:j=i:=by omega
  omega
 refine⟨om,λhne j g1 g2=>?_⟩;by_cases hj:j=i
 ·subst hj;omega
 have:=h5 (j-i) om om;rw[show i+(j-i)=j by omega] at this;omega
section
variable {P:Program} {N:Nat} {ops:Array Oper} {Q:Exit->Act->World->Prop} {rest:List Oper} {s:Base} {e:Env} {m:List Piece} {d:Nat} {ty:TypeId} {pos:String} {af:Array Edge}
theorem St.newObj {ok:Ok}{w:World}(h:St s ok m w){o:Obj}(ho:Obj.notCells o=true):∃ ok',St s ok' (.obj w.heap.size o::m) (w.alloc o)/\Stp ok w ok' (w.alloc o):=by
 have hk:∀ b j,b<w.heap.size->((ok b j/\b≠w.heap.size)↔ok b j):=λb j hb=>⟨λh=>h.1,λh=>⟨h,om⟩⟩;have oZ:(w.alloc o).heap[w.heap.size]?=some o:=by
  show (w.heap.push o)[w.heap.size]?=some o;simp
 have hsz:(w.alloc o).heap.size=w.heap.size+1:=by
  show (w.heap.push o).size=_;simp
 refine⟨λb j=>ok b j/\b≠w.heap.size,h.grow (new:=[.obj w.heap.size o]) (Ext.alloc w o) hk (λb j hb=>⟨h.fresh b j om,om⟩) ?_ ?_ ?_ ?_⟩
 ·intro p hp;rw[List.mem_singleton] at hp;subst hp;exact⟨oZ,ho⟩
 ·intro p hp g hg;rw[List.mem_singleton] at hp;subst hp;injection hg with hg
  omega
 ·intro p hp b j hb hh;rw[List.mem_singleton] at hp;subst hp;exact hh.2 hb
 exact List.pairwise_singleton _ _
theorem St.setObj {ok:Ok}{w:World}{pre post:List Piece}{o o':Obj}(h:St s ok (pre++.obj g o::post) w)(ho:Obj.notCells o'=true) :
  St s ok (pre++.obj g o'::post) { w with heap:=w.heap.setIfInBounds g o' }/\Stp ok w ok { w with heap:=w.heap.setIfInBounds g o' }:=by
 have hpm:Piece.obj g o∈pre++.obj g o::post:=sm
 have hlt:g<w.heap.size:=(h.lt _ hpm g rfl).1;have hoth:∀ b,b≠g->(w.heap.setIfInBounds g o')[b]?=w.heap[b]?:=λb hb=>Array.getElem?_setIfInBounds_ne (Ne.symm hb);have hst:Stp ok w ok { w with heap:=w.heap.setIfInBounds g o' }:=⟨sm,λb j u h1 h2=>by
  have hne:b≠g:=by
   rintro rfl;exact h.own _ hpm b j rfl h2
  exact⟨(DN (hoth b hne)).trans h1,h2⟩⟩
 refine⟨h.write (g:=g) (p':=.obj g o') rfl (.inl rfl) hst ⟨by simp[hlt],ho⟩ (λb j hb=>h.own _ hpm b j hb) sm rfl rfl rfl hoth (λ_ _ _=>Iff.rfl),hst⟩
theorem a8Y {T:TypeId}[t:TyT P T](h:∀ g,AL P N ops Q s rest ((d,ptr g)::e) (.obj g (.stringIter ⟨l.toArray⟩ 0)::m))(hx:ev e x=some (str l):=by exact rfl)(hd:Nat.blt d N=true:=by exact rfl):AL P N ops Q s (⟨some d,.range T x,ty,pos,af,none⟩::rest) e m:=
 kF (λok w A hS hA=>by
  obtain⟨ok',g1,g2⟩:=hS.newObj (o:=.stringIter ⟨l.toArray⟩ 0) rfl;exact⟨_,.pointer (some ⟨w.heap.size,0,none⟩),w.alloc (.stringIter ⟨l.toArray⟩ 0),ok',_,by simp[execOp,hA.lit hx,Instr.range,run_underlying t.out,newObj,Sem.run],RVl rfl,g1,g2,h w.heap.size⟩) hd
theorem a9m {pre post:List Piece}(hi:i<l.length)(hm:m=pre++.obj g (.stringIter ⟨l.toArray⟩ i)::post)(h:AL P N ops Q s rest ((d,.tup [d9 true,int i,.lit (.int .i32 (kV l i).1)])::e) (pre++.obj g (.stringIter ⟨l.toArray⟩ (i+(kV l i).2))::post))(hx:ev e x=some (ptr g):=by exact rfl)(hd:Nat.blt d N=true:=by exact rfl):AL P N ops Q s (⟨some d,.next x true,ty,pos,af,none⟩::rest) e m:=
 kF (λok w A hS hA=>by
  subst hm;obtain⟨ho,_⟩:=hS.at_ (.obj g (.stringIter ⟨l.toArray⟩ i)) sm;obtain⟨g1,g2⟩:=hS.setObj (o':=.stringIter ⟨l.toArray⟩ (i+(kV l i).2)) rfl;have hi':i<(⟨l.toArray⟩:ByteArray).size:=by rw[tK];exact hi
  exact⟨.tup [d9 true,int i,.lit (.int .i32 (kV l i).1)],.tuple #[.bool true,.int .i64 i,.int .i32 (kV l i).1],_,ok,_,by
   simp[execOp,hA.lit hx,Instr.next,getObj,setObj,Sem.run,ho,hi',goInt,kV],⟨_,rfl,_,_,rfl,RV0.of_lit rfl,_,_,rfl,RV0.of_lit rfl,_,_,rfl,RV0.of_lit rfl,rfl⟩,g1,g2,h⟩) hd
theorem a9n (hi:l.length<=i)(hm:Piece.obj g (.stringIter ⟨l.toArray⟩ i)∈m)(h:AL P N ops Q s rest ((d,.tup [d9 false])::e) m)(hx:ev e x=some (ptr g):=by exact rfl)(hd:Nat.blt d N=true:=by exact rfl):AL P N ops Q s (⟨some d,.next x true,ty,pos,af,none⟩::rest) e m:=
 dC (λok w A hS hA=>by
  obtain⟨ho,_⟩:=hS.at_ _ hm;have hi':¬ i<(⟨l.toArray⟩:ByteArray).size:=by rw[tK];omega
  exact⟨.tuple #[.bool false],by simp[execOp,hA.lit hx,Instr.next,getObj,Sem.run,ho,hi'],⟨_,rfl,_,_,rfl,RV0.of_lit rfl,rfl⟩⟩) hd h
end
end

section
variable {w:World}{args:Array Value}{f:FuncId}{c x y:Code}{m1:List Piece}{r:Loop}{fn:Func}{ds:List Deferred}
abbrev Ro (l:Nat):Fence:=Fence.wide.inRound l
abbrev yv (l:Nat):AV:=.lit (.func (.yield l) #[] #[])
class NoOut (Q:Exit->Act->World->Prop):Prop where
 out:¬ LetsOut Q
instance {K:Act->World->Prop}{Q:Exit->Act->World->Prop}[h:NoOut Q]:NoOut (Exit.then K Q):=⟨fun⟨a,w,e⟩=>h.out ⟨a,w,e⟩⟩
instance {id:Nat}{Q:Exit->Act->World->Prop}[h:NoOut Q]:NoOut (Exit.inBlock id Q):=⟨fun⟨a,w,e⟩=>h.out ⟨a,w,e⟩⟩
instance {P:Program}{l:Nat}{R:Ending->World->Prop}:NoOut (roundPost P l R):=⟨fun⟨_,_,e⟩=>e⟩
instance : NoOut (λ_ _ _ => False) := ⟨λ⟨_, _, e⟩ => e⟩
instance {P:Program}{fn:Func}{s:Base}{K:AV->List Piece->Prop}:NoOut (bodyPost P fn (Back s K)):=⟨fun⟨_,_,_,_,_,_,_,e,_⟩=>by cases e⟩
instance {P:Program}{F:Fence}{n:Nat}{fn:Func}{s:Base}{K:AV->List Piece->Prop}:NoOut (bodyPostM F n P fn (Back s K)):=⟨fun⟨_,_,_,_,_,_,_,e,_⟩=>by cases e⟩
instance {Q:Exit->Act->World->Prop}[h:NoOut Q]:NoOut (Exit.noGoto Q):=⟨fun⟨a,w,e⟩=>h.out ⟨a,w,e⟩⟩
def xU (o:Oper):Bool:=match o.op with
 | .defer _=>false
 | _=>true
theorem Kn {o:Oper}(h:xU o=true):∀ c,o.op≠.defer c:=λc e=>by
 unfold xU at h;rw[e] at h;cases h
section
variable {P:Program} {F:Fence}
theorem Ck {o:Oper}{a:Act}{K:Act->World->Prop}{Q Q':Exit->Act->World->Prop}(hd:F.depth=none)(hc:∀ {f:FuncId} {args:Array Value} {w:World} {R:Ending->World->Prop},Calls P f args w R->CallsIn F 0 P f args w R)
  (hr:∀ {row:String} {args:Array Value} {w:World} {R:Value->World->Prop},Rows P row args w R->RowsIn F 0 P row args w R) (hQ:∀ chain a w,Q (.panic chain) a w->Q' (.panic chain) a w) (hO:LetsOut Q->LetsOut Q'):∀ {r:Result Go.Next},o.upon P a K Q r->o.uponIn F 0 P a K Q' r
 | .halt x w',h=>by cases x <;> first|exact hQ _ _ _ h|exact h
 | .ok x w',h=>by
  cases x with
  | enter f args=>
   refine⟨(λe=>by rw[hd] at e;cases e),CallsIn.mono (hc h) λe w h=>?_⟩;cases e
   ·exact h
   ·exact hQ _ _ _ h
   exact hO h
  | row row args=>exact⟨(λe=>by rw[hd] at e;cases e),hr h⟩
  | round _ _ _ _ _=>exact(show False from h).elim
  | _=>exact h
theorem KH {ops:Array Oper}{Q Q':Exit->Act->World->Prop}(hf:∀ f,F.fn f)(hd:F.depth=none)(hc:∀ {f:FuncId} {args:Array Value} {w:World} {R:Ending->World->Prop},Calls P f args w R->CallsIn F 0 P f args w R)
  (hr:∀ {row:String} {args:Array Value} {w:World} {R:Value->World->Prop},Rows P row args w R->RowsIn F 0 P row args w R) (hQ:∀ chain a w,Q (.panic chain) a w->Q' (.panic chain) a w) (hO:¬ LetsOut Q) {rest:List Oper} :
  ∀ (l:List Oper) (a:Act) (w:World),l.all xU=true->(∀ a w,Q .normal a w->wpListIn F 0 P ops Q' rest a w)->wpList P ops Q l a w->wpListIn F 0 P ops Q' (l++rest) a w
 | [],a,w,_,hn,h=>hn a w h
 | o::l,a,w,ho,hn,h=>by
  rw[List.all_cons,bet] at ho;unfold wpList at h;rw[List.cons_append];unfold wpListIn;by_cases hw:Region.wanted o (yielded ops a.tmps)=true
  ·rw[if_pos hw] at h ⊢;rcases h with h|⟨_,h⟩
   ·refine⟨λf _=>hf f,?_⟩;rw[Oper.semAt_eq _ _ _ (Kn ho.1)];have h':=Oper.wp_mono (λa w=>KH hf hd hc hr hQ hO l a w ho.2 hn) h;exact Ck hd hc hr hQ (λe=>absurd e hO) h'
   exact absurd h hO
  rw[if_neg hw] at h ⊢;exact⟨λf _=>hf f,KH hf hd hc hr hQ hO l _ w ho.2 hn h⟩
theorem Tv {R:Ending->World->Prop}(h:Calls P f args w R):CallsIn Fence.wide 0 P f args w R:=callsIn_wide.2 h
theorem Tx {l:Nat}{R:Ending->World->Prop}(h:Calls P f args w R):CallsIn (Ro l) 0 P f args w R:=callsIn_wide.2 h
theorem UO {row:String}{R:Value->World->Prop}(h:Rows P row args w R):RowsIn Fence.wide 0 P row args w R:=λc cs _=>by
 obtain⟨v,w',h1,h2⟩:=h c cs;exact⟨v,w',h1,stepsIn_wide.2 h2⟩
theorem Ga {l:Nat}{row:String}{R:Value->World->Prop}(h:Rows P row args w R):RowsIn (Ro l) 0 P row args w R:=UO h
end
section
variable {P:Program} {N:Nat} {ops:Array Oper} {Q:Exit->Act->World->Prop} {rest l:List Oper} {s:Base} {e:Env} {m:List Piece} {d:Nat} {ty:TypeId} {pos:String} {af:Array Edge} {gl:List (Nat × AV)} {L:Nat}
def BC (P:Program)(N L:Nat)(c:Code)(Q:Exit->Act->World->Prop)(s:Base)(e:Env)(m:List Piece):Prop:=∀ ok w a,St s ok m w->Sat N ok w e a->c.wpIn (Ro L) 0 P Q a w
theorem nY (h:BC P N L x (Exit.then (λa w=>y.wpIn (Ro L) 0 P Q a w) Q) s e m):BC P N L (.seq x y) Q s e m:=λok w a hS ha=>wpIn_seq (h ok w a hS ha)
theorem RB {id:Nat}(h:BC P N L c (Exit.inBlock id Q) s e m):BC P N L (.block id c) Q s e m:=λok w a hS ha=>wpIn_block (h ok w a hS ha)
theorem LQ (h:AE N .normal Q s e m):BC P N L .skip Q s e m:=λok w a hS ha=>wpIn_skip (h.run ok w a hS ha)
theorem Al {id:Nat}(h:AE N (.exit id) Q s e m):BC P N L (.exit id) Q s e m:=λok w a hS ha=>wpIn_exit (h.run ok w a hS ha)
theorem GV {c:Operand}(h:BC P N L x Q s e m)(hc:ev e c=some (.lit (.bool true)):=by exact rfl):BC P N L (.cond c x y) Q s e m:=λok w a hS ha=>wpIn_cond_true (ha.lit hc) (h ok w a hS ha)
theorem GX {c:Operand}(h:BC P N L y Q s e m)(hc:ev e c=some (.lit (.bool false)):=by exact rfl):BC P N L (.cond c x y) Q s e m:=λok w a hS ha=>wpIn_cond_false (ha.lit hc) (h ok w a hS ha)
theorem pM {id:Nat}[hQ:NoOut Q](h:AL P N l.toArray Q s l e m)(hn:l.all xU=true:=by exact rfl):BC P N L (.region id l.toArray false) Q s e m:=λok w a hS ha=>by
 refine wpIn_region_lit ?_;have:=KH (F:=Ro L) (rest:=[]) (λ_=>trivial) rfl Tx Ga (λ_ _ _ h=>h) hQ.out l a w hn (λa w h=>h) (h.run ok w a hS ha)
 rwa [List.append_nil] at this
theorem jB {Q':Exit->Act->World->Prop}(h:BC P N L c Q' s e m):AE N .normal (Exit.then (λa w=>c.wpIn (Ro L) 0 P Q' a w) Q) s e m:=AE.mk h
theorem Ak {F:Exit->Act->World->Prop}(hm:m.Perm (.obj L (.loop r)::m1))(hr:r.state=.ready)(h:BC P N L c Q s e (.obj L (.loop { r with state:=.busy })::m1)) :
  AE N .normal (Exit.then (λa₁ w₁=>∃ w₂,(Instr.beginRound L).run P w₁=.ok () w₂/\c.wpIn (Ro L) 0 P Q a₁ w₂) F) s e m:=AE.mk λok w a hS ha=>by
 have hS':=hS.perm hm.symm;have ho:=(hS'.at_ (.obj L (.loop r)) sm).1;obtain⟨g1,g2⟩:=St.setObj (pre:=[]) (o':=.loop { r with state:=.busy }) hS' rfl;exact⟨_,run_beginRound ho hr,h ok _ a g1 (ha.stp g2)⟩
theorem yO {K:AV->List Piece->Prop}(hm:m.Perm (.obj L (.loop r)::m1))(hK:K (d9 true) (.obj L (.loop { r with state:=.ready,pending:=none })::m1)):AE N .normal (roundPost P L (Back s K)) s e m:=AE.mk λok w a hS ha=>by
 have hS':=hS.perm hm.symm;have ho:=(hS'.at_ (.obj L (.loop r)) sm).1;obtain⟨g1,g2⟩:=St.setObj (pre:=[]) (o':=.loop { r with state:=.ready,pending:=none }) hS' rfl;exact⟨_,_,run_endRound none ho,d9 true,_,ok,.bool true,hK,rfl,RV0.of_lit rfl,g1⟩
theorem b0t {id:Nat}{K:AV->List Piece->Prop}(hm:m.Perm (.obj L (.loop r)::m1))(hK:K (d9 false) (.obj L (.loop { r with state:=.done,pending:=some (.exit id) })::m1)):AE N (.exit id) (roundPost P L (Back s K)) s e m:=AE.mk λok w a hS ha=>by
 have hS':=hS.perm hm.symm;have ho:=(hS'.at_ (.obj L (.loop r)) sm).1;obtain⟨g1,g2⟩:=St.setObj (pre:=[]) (o':=.loop { r with state:=.done,pending:=some (.exit id) }) hS' rfl;exact⟨_,_,run_endRound (some (.exit id)) ho,d9 false,_,ok,.bool false,hK,rfl,RV0.of_lit rfl,g1⟩
def Yld (P:Program)(gl:List (Nat × AV))(ok0:Ok)(w0:World)(L:Nat)(args:List AV)(m:List Piece)(K:AV->List Piece->Prop):Prop:=
 ∀ ok w cargs,Stp ok0 w0 ok w->St (Y0 gl m ok w) ok m w->RVs ok w args cargs->YieldAt Fence.wide 0 P L cargs.toArray w (Back (Y0 gl m ok w) K)
theorem SX {ok0:Ok}{w0:World}{e0:Env}{a0:Act}{p:Nat}{x:AV}{K:AV->List Piece->Prop}(h0:Sat N ok0 w0 e0 a0)(hr:r.tmps=a0.tmps)(hp:r.params=#[p])(hpN:Nat.blt p N=true)
  (h:∀ s:Base,s.gl=gl->BC P N L r.assign (Exit.then (λa₁ w₁=>∃ w₂,(Instr.beginRound L).run P w₁=.ok () w₂/\r.body.wpIn (Ro L) 0 P (roundPost P L (Back s K)) a₁ w₂) (λ_ _ _=>False)) s ((p,x)::e0) (.obj L (.loop r)::m1)) :
  Yld P gl ok0 w0 L [x] (.obj L (.loop r)::m1) K:=λok w cargs hst hS hv=>by
 obtain⟨u,us,rfl,hu,h2⟩:=hv;obtain rfl:=(show us=[] from h2);have ho:=(hS.at_ (.obj L (.loop r)) sm).1;refine⟨_,_,_,_,run_yield ho (by rw[hp];rfl),roundIn_of_wpIn trivial ?_⟩;have ha:Sat N ok w ((p,x)::e0) (a0.put (some p) u):=(h0.stp hst).put (RV.of0 hu) hpN;have e1:({ tmps:=(r.params.zip #[u]).foldl (λtmps (t,a)=>tmps.setIfInBounds t a) r.tmps,defers:=[] }:Act)=a0.put (some p) u:=by
  have hdf:a0.defers=[]:=h0.defers;rw[hp,hr];obtain⟨t0,d0⟩:=a0;subst hdf;simp[Act.put]
 have:=h (Y0 gl (.obj L (.loop r)::m1) ok w) rfl ok w _ hS ha;rw[<- e1] at this;exact this
def AI (P:Program)(N:Nat)(ops:Array Oper)(Q:Exit->Act->World->Prop)(s:Base)(l:List Oper)(e:Env)(m:List Piece):Prop:=∀ ok w a,St s ok m w->Sat N ok w e a->wpListIn Fence.wide 0 P ops Q l a w
theorem Bp {id:Nat}(h:AI P N l.toArray Q s l e m):AC P N (.region id l.toArray false) Q s e m:=AC.mk λok w a hS ha=>(wpIn_wide (n:=0)).1 (wpIn_region_lit (h ok w a hS ha))
theorem b0q (h:AE N .normal Q s e m):AI P N ops Q s [] e m:=λok w a hS ha=>h.run ok w a hS ha
theorem Bj {pre:List Oper}{α:Type}(I:α->Env)(M:α->List Piece)(h1:AL P N ops (Exit.then (λa w=>∃ z ok,Sat N ok w (I z) a/\St s ok (M z) w) (λ_ _ _=>False)) s pre e m)(h2:∀ z,AI P N ops Q s rest (I z) (M z))(hn:pre.all xU=true:=by exact rfl):AI P N ops Q s (pre++rest) e m:=λok w a hS ha=>
 KH (F:=Fence.wide) (Q:=Exit.then (λa w=>∃ z ok,Sat N ok w (I z) a/\St s ok (M z) w) (λ_ _ _=>False)) (λ_=>trivial) rfl Tv UO (λ_ _ _ h=>h.elim) (NoOut.out) pre a w hn (λa w hx=>by
  obtain⟨z,ok,g1,g2⟩:=hx;exact h2 z ok w a g2 g1) (h1.run ok w a hS ha)
theorem Xg [hQ:NoOut Q](h:AL P N ops Q s l e m)(hn:l.all xU=true:=by exact rfl):AI P N ops Q s l e m:=λok w a hS ha=>by
 have:=KH (F:=Fence.wide) (rest:=[]) (λ_=>trivial) rfl Tv UO (λ_ _ _ h=>h) hQ.out l a w hn (λa w h=>h) (h.run ok w a hS ha)
 rwa [List.append_nil] at this
theorem Bi {ok0:Ok}{w0:World}{x:Operand}{xs:List Operand}{ts:Array TypeId}{args:List AV}(m1 fr:List Piece){K:AV->List Piece->Prop}(hc:Yld P s.gl ok0 w0 L args m1 K)(hw:Stp ok0 w0 s.ok s.w)(h:∀ v m1',K v m1'->AI P N ops Q s rest ((d,v)::e) (m1'++fr))(hp:m.Perm (m1++fr))
  (h0:ev e x=some (yv L):=by exact rfl) (hx:evs e xs=some args:=by exact rfl) (hn:args.all U8=true:=by exact rfl) (hd:Nat.blt d N=true:=by exact rfl):AI P N ops Q s (⟨some d,.call ⟨.value x,xs.toArray,ts⟩,ty,pos,af,none⟩::rest) e m:=λok w a hS ha=>by
 refine wpListIn_plain rfl λK' hK=>?_;have hS':=hS.perm hp.symm;obtain⟨fn,tmps,assign,body,hy,hR⟩:=hc ok w _ (hw.trans hS.stp) hS'.lend (ha.evals hx hn);refine⟨λ_ _=>trivial,?_⟩;have hrun:(execOp a.eval ⟨some d,.call ⟨.value x,xs.toArray,ts⟩,ty,pos,af,none⟩).run P w=.ok (.round L fn tmps assign body) w:=by
  simpa[execOp,resolve,ha.lit h0,Deferred.ofValue,invoke] using hy
 have hsem:Oper.semAt Fence.wide.round a.eval ⟨some d,.call ⟨.value x,xs.toArray,ts⟩,ty,pos,af,none⟩=execOp a.eval ⟨some d,.call ⟨.value x,xs.toArray,ts⟩,ty,pos,af,none⟩:=Oper.semAt_eq _ _ _ (λc e=>by cases e);rw[hsem,hrun,Oper.uponIn_round];refine⟨(λe=>by cases e),RoundIn.mono hR λx w' hx=>?_⟩;obtain⟨v,m',ok',cv,g1,rfl,g2,g3⟩:=hx;exact hK _ _ (h v m' g1 ok' w' _ (hS'.back g3) ((ha.stp g3.stp).put g2 hd))
theorem Tz {args:List AV}{K:AV->List Piece->Prop}(hf:P.funcs[f]?=some fn)(hb:fn.body=some c)(hN:fn.ntmps=N)(hl':Nat.ble args.length N=true){ok:Ok}{cargs:List Value}(hS:St (Y0 gl m ok w) ok m w)(hv:RVs ok w args cargs)
  (h:AC P N c (bodyPost P fn (Back (Y0 gl m ok w) K)) (Y0 gl m ok w) (DV 0 args) m):Calls P f cargs.toArray w (Back (Y0 gl m ok w) K):=by
 have hl:args.length<=N:=nlb hl';have hcl:=hv.length;refine calls_of_wp hf hb (h.run ok w _ hS ⟨?_,rfl,?_⟩)
 ·simp[hN];omega
 intro t v ht;obtain⟨_,h2⟩:=RG args 0 t v ht;simp only[Nat.sub_zero] at h2;obtain⟨u,h3,h4⟩:=hv.get h2;have hlt:t<cargs.length:=(List.getElem?_eq_some_iff.1 h3).1;have h5:cargs[t]=u:=(List.getElem?_eq_some_iff.1 h3).2;have h6:=RV.of0 h4;simpa[Array.getElem?_append,hlt,h5] using h6
abbrev zU (fn:FuncId)(a:Act)(ps:Array Tmp)(assign body:Code)(w:World):Loop:={ state:=.ready,pending:=none,fn,tmps:=a.tmps,params:=ps,assign,body,defers:=w.heap.size }
abbrev wP (w:World):List Deferred:=[{ target:=.collected w.heap.size,args:=#[] }]
theorem Bq {g:Operand}{ps:Array Tmp}{assign body:Code}{gf:FuncId}[hf:FnB P gf]{lb:List Value}(_:∀ v∈lb,v.oneCell'=true)
  (h:∀ ok w a fn,St s ok m w->Sat N ok w e a->∀ ok1 w1,Stp ok w ok1 w1->St s ok1 (.obj (w.heap.size+1) (.loop (zU fn a ps assign body w))::.obj w.heap.size (.deferred (some []))::m) w1->Sat N ok1 w1 e a ->
   Calls P gf ((.func (.yield (w.heap.size+1)) #[] #[])::lb).toArray w1 (λx w2=>∃ v ok2 r' m2,x=.returned v/\r'.state≠.busy/\St s ok2 (.obj (w.heap.size+1) (.loop r')::m2) w2/\Stp ok1 w1 ok2 w2 /\
    ∀ ok3 w3,St s ok3 (.obj (w.heap.size+1) (.loop { r' with state:=.exhausted })::m2) w3->Stp ok2 w2 ok3 w3->(match r'.pending with
     | none=>Q .normal { a with defers:=wP w } w3
     | some c=>c.wp P Q { a with defers:=wP w } w3)))
  (h0:ev e g=some (E5 gf lb):=by exact rfl):AC P N (.rangeFunc g ps assign body) Q s e m:=AC.mk λok w a hS ha=>by
 refine(wpIn_wide (n:=0)).1 (wpIn_rangeFunc λfn _=>?_);obtain⟨ok1,hS1,st1⟩:=hS.newObj (o:=.deferred (some [])) rfl;obtain⟨ok2,hS2,st2⟩:=hS1.newObj (o:=.loop (zU fn a ps assign body w)) rfl;have hsz:(w.alloc (.deferred (some []))).heap.size=w.heap.size+1:=World.size_alloc _ _;rw[hsz] at hS2;have hst:=st1.trans st2;have hcall:=h ok w a fn hS ha ok2 _ hst hS2 (ha.stp hst);have hev:a.eval g=.func (.func gf) #[] lb.toArray:=ha.lit h0;refine⟨w.heap.size+1,wP w,(w.alloc (.deferred (some []))).alloc (.loop (zU fn a ps assign body w)),{ target:=.fn (.func gf) lb.toArray,args:=#[.func (.yield (w.heap.size+1)) #[] #[]] },(w.alloc (.deferred (some []))).alloc (.loop (zU fn a ps assign body w)),gf,((.func (.yield (w.heap.size+1)) #[] #[])::lb).toArray,(w.alloc (.deferred (some []))).alloc (.loop (zU fn a ps assign body w)),run_enterLoop_outer fn a.tmps ps assign body,?_,λ_ _=>trivial,?_,(λe=>by cases e),?_⟩;rotate_left 2
 ·refine CallsIn.mono (callsIn_wide.2 hcall) λx w2 hx=>?_;obtain⟨v,ok3,r',m2,rfl,hb,hS3,st3,hk⟩:=hx;have ho:=(hS3.at_ (.obj (w.heap.size+1) (.loop r')) sm).1;obtain⟨g1,g2⟩:=St.setObj (pre:=[]) (o':=.loop { r' with state:=.exhausted }) hS3 rfl;refine⟨_,_,run_endLoop ho hb,?_⟩;have hk':=hk ok3 _ g1 g2;have hdf:wP w++a.defers=wP w:=by rw[ha.defers,List.append_nil]
  show (match r'.pending with|none=>Q .normal { a with defers:=wP w++a.defers } _|some c=>c.wpIn Fence.wide 0 P Q { a with defers:=wP w++a.defers } _);rw[hdf];cases hpd:r'.pending with
  | none=>rw[hpd] at hk';exact hk'
  | some c=>rw[hpd] at hk';exact(wpIn_wide (n:=0)).2 hk'
 ·have e1:resolve a.eval (rangeCall g (w.heap.size+1)) 0=Deferred.ofValue (a.eval g) #[.func (.yield (w.heap.size+1)) #[] #[]]:=by
   have hc:a.eval (.const (.func (.yield (w.heap.size+1)) #[] #[]))=.func (.yield (w.heap.size+1)) #[] #[]:=rfl;simp[resolve,hc]
  rw[e1,hev];simp[Deferred.ofValue]
 simp[invoke,hf.run]
theorem put_defers (a:Act)(d:Option Tmp)(v:Value):(a.put d v).defers=a.defers:=by cases d <;> rfl
theorem Cg {K:Act->World->Prop}(hK:∀ a w,K a w->a.defers=[]):∀ (l:List Oper) (a:Act) (w:World),a.defers≠[]->¬ wpList P ops (Exit.then K λ_ _ _=>False) l a w
 | [],a,w,hd,h=>hd (hK a w h)
 | o::l,a,w,hd,h=>by
  have ih:=Cg hK l;unfold wpList at h;by_cases hw:Region.wanted o (yielded ops a.tmps)=true
  ·rw[if_pos hw] at h;rcases h with h|⟨_,_,_,h⟩
   ·unfold Oper.wp at h;generalize (execOp a.eval o).run P w=r at h;cases r with
    | halt x w'=>cases x <;> exact h
    | ok x w'=>
     cases x with
     | value v=>exact ih _ _ (by rw[put_defers];exact hd) h
     | skip=>exact ih _ _ (by rw[put_defers];exact hd) h
     | enter f args=>
      obtain⟨e,w2,fr,hR,_⟩:=(show Calls P f args w' _ from h) [];cases e
      ·exact ih _ _ (by rw[put_defers];exact hd) hR
      ·exact hR
      obtain⟨_,_,hR⟩:=hR;exact hR
     | row row args=>
      obtain⟨v,w2,hR,_⟩:=(show Rows P row args w' _ from h) default [];exact ih _ _ (by rw[put_defers];exact hd) hR
     | defer d=>exact ih _ _ (by rw[put_defers];exact List.cons_ne_nil _ _) h
     | _=>exact h
   exact h.elim
  rw[if_neg hw] at h;exact ih _ _ (by rw[put_defers];exact hd) h
theorem TC {ds:List Deferred}{K:Act->World->Prop}(hK:∀ a w,K a w->a.defers=[]):∀ (l:List Oper) (a:Act) (w:World),wpList P ops (Exit.then K λ_ _ _=>False) l a w->wpList P ops (Exit.then (λa' w'=>∃ a0:Act,a'={ a0 with defers:=ds }/\K a0 w') λ_ _ _=>False) l { a with defers:=ds } w
 | [],a,w,h=>⟨a,rfl,h⟩
 | o::l,a,w,h=>by
  have hput:∀ (a:Act) (v:Value),({ a with defers:=ds }:Act).put o.dst v={ a.put o.dst v with defers:=ds }:=λa v=>by
   cases o.dst <;> rfl
  have hev:({ a with defers:=ds }:Act).eval=a.eval:=by
   funext x
   cases x <;> rfl
  unfold wpList at h ⊢;by_cases hw:Region.wanted o (yielded ops a.tmps)=true
  ·rw[if_pos hw] at h;rw[if_pos (show Region.wanted o (yielded ops ({ a with defers:=ds }:Act).tmps)=true from hw)];rcases h with h|⟨_,_,_,h⟩
   ·left
    unfold Oper.wp at h ⊢;rw[hev];generalize (execOp a.eval o).run P w=r at h ⊢;have key:∀ v w,wpList P ops (Exit.then K λ_ _ _=>False) l (a.put o.dst v) w->wpList P ops (Exit.then (λa' w'=>∃ a0:Act,a'={ a0 with defers:=ds }/\K a0 w') λ_ _ _=>False) l (({ a with defers:=ds }:Act).put o.dst v) w:=λv w h=>by
     rw[hput];exact TC hK l _ w h
    cases r with
    | halt x w'=>cases x <;> exact h
    | ok x w'=>
     cases x with
     | value v=>exact key v w' h
     | skip=>exact key _ w' h
     | enter f args=>
      refine Calls.mono (show Calls P f args w' _ from h) λe w h=>?_;cases e
      ·exact key _ _ h
      ·exact h
      exact h
     | row row args=>exact Rows.mono (show Rows P row args w' _ from h) λv w h=>key v w h
     | defer d=>exact(Cg hK l _ _ (by rw[put_defers];exact List.cons_ne_nil _ _) h).elim
     | _=>exact h
   exact h.elim
  rw[if_neg hw] at h;rw[if_neg (show ¬ Region.wanted o (yielded ops ({ a with defers:=ds }:Act).tmps)=true from hw),hput];exact TC hK l _ w h
def ACD (P:Program)(N:Nat)(ds:List Deferred)(c:Code)(Q:Exit->Act->World->Prop)(s:Base)(e:Env)(m:List Piece):Prop:=∀ ok w a,St s ok m w->Sat N ok w e a->c.wp P Q { a with defers:=ds } w
theorem SF (h:ACD P N ds x (Exit.then (λa w=>y.wp P Q a w) Q) s e m):ACD P N ds (.seq x y) Q s e m:=λok w a hS ha=>wp_seq (h ok w a hS ha)
def AED (N:Nat)(ds:List Deferred)(x:Exit)(Q:Exit->Act->World->Prop)(s:Base)(e:Env)(m:List Piece):Prop:=∀ ok w a,St s ok m w->Sat N ok w e a->Q x { a with defers:=ds } w
theorem SH (h:AED N ds .ret Q s e m):ACD P N ds .ret Q s e m:=λok w a hS ha=>wp_ret (h ok w a hS ha)
theorem BH {Q':Exit->Act->World->Prop}(h:ACD P N ds c Q' s e m):AED N ds .normal (Exit.then (λa w=>c.wp P Q' a w) Q) s e m:=h
theorem Bn {id:Nat}(h:AED N ds .normal Q s e m):AED N ds .normal (Exit.inBlock id Q) s e m:=h
theorem SK {id:Nat}{α:Type}(I:α->Env)(M:α->List Piece)(h:AL P N l.toArray (Exit.then (λa w=>∃ z ok,Sat N ok w (I z) a/\St s ok (M z) w) λ_ _ _=>False) s l e m)(h2:∀ z,AED N ds .normal Q s (I z) (M z)):ACD P N ds (.region id l.toArray false) Q s e m:=λok w a hS ha=>by
 refine wp_region_lit (TB (λx a' w' hx=>?_) _ _ _ (TC (ds:=ds) (λa w ⟨_,_,g,_⟩=>g.defers) l a w (h.run ok w a hS ha)));cases x
 case normal=>
  obtain⟨a0,rfl,z,ok',g1,g2⟩:=hx;exact h2 z ok' w' a0 g2 g1
 all_goals exact hx.elim
theorem RZ {K:AV->List Piece->Prop}{rs:List ResultVar}{vs:List AV}{m':List Piece}{x:Exit}{D:Nat}(hr:fn.results=rs.toArray)(hm:m.Perm (.obj D (.deferred (some []))::m1))(h:Ress P N s e (.obj D (.deferred none)::m1) rs vs)(hx:x=.ret\/x=.normal)(hK:K (D8 vs) m')(hs:m'.Sublist m1) :
  AED N [{ target:=.collected D,args:=#[] }] x (bodyPostM Fence.wide 0 P fn (Back s K)) s e m:=λok w a hS0 ha0=>by
 have hS':=hS0.perm hm.symm;have ho:=(hS'.at_ (.obj D (.deferred (some []))) sm).1;obtain⟨hS,g2⟩:=St.setObj (pre:=[]) (o':=.deferred none) hS' rfl;have ha:=ha0.stp g2;obtain⟨us,h1,h2⟩:=VE (w:=w.putObj D (.deferred none)) hS ha h;have hlen:=h1.length;have h3:(results fn a.tmps).run P (w.putObj D (.deferred none))=.ok (if hh:us.toArray.size=1 then us.toArray[0] else .tuple us.toArray) (w.putObj D (.deferred none)):=by
  have h5:results fn a.tmps=(do let vs <- fn.results.mapM (JN a);pure (if h:vs.size=1 then vs[0] else .tuple vs)):=by
   unfold results;congr 2
  rw[h5,hr,Array.mapM_eq_mapM_toList];simp[h2]
 have h4:RV ok (w.putObj D (.deferred none)) (D8 vs) (if hh:us.toArray.size=1 then us.toArray[0] else .tuple us.toArray):=by
  match vs,us,h1,hlen with
  | [v],us,⟨u,r,e1,e2,e3⟩,_=>
   obtain rfl:=(show r=[] from e3);subst e1;exact RV.of0 e2
  | [],us,h1,_=>
   obtain rfl:=(show us=[] from h1);exact⟨[],rfl,rfl⟩
  | v1::v2::vs,us,h1,hlen=>
   have:¬ us.toArray.size=1:=by simp[hlen]
   rw[dif_neg this];exact⟨us,rfl,h1⟩
 have hL:LeavesInM Fence.wide 0 P fn a.tmps (Back s K) [{ target:=.collected D,args:=#[] }] .returning w:=⟨sm,.inl ⟨D,_,rfl,run_takeDeferred ho,_,h3,_,m',ok,_,hK,rfl,h4,hS.less (hs.cons _)⟩⟩;rcases hx with rfl|rfl <;> exact hL
theorem TZ {args:List AV}{K:AV->List Piece->Prop}(hf:P.funcs[f]?=some fn)(hb:fn.body=some c)(hN:fn.ntmps=N)(hl':Nat.ble args.length N=true)
  (h:∀ s:Base,s.gl=gl->AC P N c (bodyPostM Fence.wide 0 P fn (Back s K)) s (DV 0 args) m):Spec P gl f args m K:=Spec.mk λok w cargs hS hv=>by
 have hl:args.length<=N:=nlb hl';have hcl:=hv.length;refine callsIn_wide.1 (callsIn_of_wp_marks (n:=0) hf hb trivial ((wpIn_wide (n:=0)).2 ((h _ rfl).run ok w _ hS ⟨?_,rfl,?_⟩)))
 ·simp[hN];omega
 intro t v ht;obtain⟨_,h2⟩:=RG args 0 t v ht;simp only[Nat.sub_zero] at h2;obtain⟨u,h3,h4⟩:=hv.get h2;have hlt:t<cargs.length:=(List.getElem?_eq_some_iff.1 h3).1;have h5:cargs[t]=u:=(List.getElem?_eq_some_iff.1 h3).2;have h6:=RV.of0 h4;simpa[Array.getElem?_append,hlt,h5] using h6
end
end

section
variable {P:Program} {F:Fence} {ops:Array Oper} {Q Q':Exit->Act->World->Prop}
theorem a2M (hf:∀ f,F.fn f)(hd:F.depth=none)(hc:∀ {f:FuncId} {args:Array Value} {w:World} {R:Ending->World->Prop},Calls P f args w R->CallsIn F 0 P f args w R)
  (hr:∀ {row:String} {args:Array Value} {w:World} {R:Value->World->Prop},Rows P row args w R->RowsIn F 0 P row args w R) (hQ:∀ chain a w,Q (.panic chain) a w->Q' (.panic chain) a w) (hO:¬ LetsOut Q) {i:Nat} {K K':Act->World->Prop}
  (hK:∀ a w,K a w->K' a w) (ho:∀ o,ops[i]?=some o->xU o=true) {a:Act} {w:World} (h:Go.wpOp P ops Q i K a w):Go.wpOpIn F 0 P ops Q' i K' a w:=by
 unfold Go.wpOp at h;unfold Go.wpOpIn;cases hi:ops[i]? with
 | none=>
  rw[hi] at h;exact hK _ _ h
 | some o=>
  rw[hi] at h;simp only at h ⊢;by_cases hw:Region.wanted o (yielded ops a.tmps)=true
  ·rw[if_pos hw] at h ⊢;rcases h with h|⟨_,h⟩
   ·refine⟨λf _=>hf f,?_⟩;rw[Oper.semAt_eq _ _ _ (Kn (ho o hi))];exact Ck hd hc hr hQ (λe=>absurd e hO) (Oper.wp_mono hK h)
   exact absurd h hO
  rw[if_neg hw] at h ⊢;exact⟨λf _=>hf f,hK _ _ h⟩
theorem Vp {md:Region.Mode}(hf:∀ f,F.fn f)(hd:F.depth=none)(hc:∀ {f:FuncId} {args:Array Value} {w:World} {R:Ending->World->Prop},Calls P f args w R->CallsIn F 0 P f args w R)
  (hr:∀ {row:String} {args:Array Value} {w:World} {R:Value->World->Prop},Rows P row args w R->RowsIn F 0 P row args w R) (hQ:∀ chain a w,Q (.panic chain) a w->Q' (.panic chain) a w) (hO:¬ LetsOut Q)
  (ho:∀ (i:Nat) (o:Oper),ops[i]?=some o->xU o=true) (hN:∀ a w,Q .normal a w->Q' .normal a w):∀ (fuel:Nat) (listed:Array Bool) (a:Act) (w:World),wpAny P md ops Q fuel listed a w->wpAnyIn F 0 P md ops Q' fuel listed a w
 | 0,_,_,_,h=>⟨h.1,hN _ _ h.2⟩
 | fuel+1,_,_,_,h=>⟨λe=>hN _ _ (h.1 e),λi hi=>a2M hf hd hc hr hQ hO (Vp hf hd hc hr hQ hO ho hN fuel _) (ho i) (h.2 i hi)⟩
end
section
variable {P:Program} {N:Nat} {Q:Exit->Act->World->Prop} {l:List Oper} {s:Base} {e:Env} {m:List Piece} {gl:List (Nat × AV)} {L:Nat}
theorem LU {id:Nat}[hm:Mixed P][hQ:NoOut Q](hg:s.gl=gl)(ho:Obl P N Q s gl l l 0 m e [])(hc:DJ N l=true:=by kernel_rfl)(hn:l.all xU=true:=by exact rfl):BC P N L (.region id l.toArray true) Q s e m:=λok w a hS ha=>by
 refine wpIn_region_any hm.out ?_;refine Vp (F:=Ro L) (Q:=Q) (λ_=>trivial) rfl Tx Ga (λ_ _ _ h=>h) hQ.out (λi o h=>?_) (λ_ _ h=>h) _ _ _ _ (Ar hg hc ho hS ha);rw[List.getElem?_toArray] at h;exact List.all_eq_true.1 hn o (List.mem_of_getElem? h)
theorem b0p {ops:Array Oper}{rest:List Oper}{ty:TypeId}{pos:String}{af:Array Edge}{op:Op}{dst:Option Tmp}{g:Nat}{b:Bool}{t:Nat}(h:AI P N ops Q s (⟨dst,op,ty,pos,af,none⟩::rest) e m)(ht:(ops[g]?).bind (·.dst)=some t:=by exact rfl)(hb:lk e t=some (.lit (.bool b)):=by exact rfl) :
  AI P N ops Q s (⟨dst,op,ty,pos,af,some (g,b)⟩::rest) e m:=λok w a hS ha=>by
 have hy:=SY ht (RV.lit (ha.env t _ hb));have:=h ok w a hS ha;unfold wpListIn at this ⊢;simp only[Region.wanted,if_true,hy,beq_self_eq_true] at this ⊢;exact this
end
end Av

namespace Go.Proofs.Z
open Go Go.RowKit Tw Av Go.Proofs.Tryz
theorem ZL {xs:List AV}{id:Option Value}(hx:xs.length<=1073741824):Av.Spec prog GL 97 [.sl 2 xs id] [] (OwnK 187 2 xs):=by
 refine ze func97 ntmps97 λ_ hs=>?_;repeat' first|refine Wz ?_|intro
 refine Aw (λq c hq hc=>?_);repeat' first|refine Wz ?_|intro
 injection hc with hc
 subst hc;refine nA (λh=>?_) (λh=>?_)
 ·repeat' first|refine Wz ?_|intro
  exact l9 [] (.inl ⟨hq h,rfl,rfl⟩) (List.nil_sublist _)
 repeat' first|refine Wz ?_|intro
 refine Bg (λg=>?_);repeat' first|refine Wz ?_|intro
 refine BF (λg' c' hc'=>?_);repeat' first|refine Wz ?_|intro
 refine l9 [.buf g' 187 2 ([]++xs) c'] (.inr ⟨g',c',?_,rfl,?_⟩) slr
 ·simp[D8]
 simpa using hc'
theorem a4B {α:Type}(xs:List α)(i:Nat)(x:α)(h:i<=xs.length):over (over xs (i+1) ((xs.drop i).take (xs.length-i))) i [x]=xs.take i++x::xs.drop i:=by
 obtain⟨a,b,rfl,rfl⟩:∃ a b,xs=a++b/\a.length=i:=⟨xs.take i,xs.drop i,(List.take_append_drop _ _).symm,by simp;omega⟩;rw[List.drop_left,List.take_left,show (a++b).length-a.length=b.length by simp,List.take_length];cases b with
 | nil=>simp[over]
 | cons y b=>
  have e1:over (a++y::b) (a.length+1) (y::b)=a++y::y::b:=by
   unfold over;rw[List.drop_of_length_le sm,show a++y::b=(a++[y])++b by simp,show a.length+1=(a++[y]).length by simp,List.take_left];simp
  rw[e1];unfold over;rw[List.take_left,show a++y::y::b=(a++[y])++(y::b) by simp,show a.length+[x].length=(a++[y]).length by simp,List.drop_left];simp
theorem a4y {α:Type}(xs:List α)(i q:Nat)(x z:α)(h:i<=xs.length)(hq:i+q=xs.length+1):over (over (xs.take i++List.replicate q z) i [x]) (i+1) ((xs.drop i).take (q-1))=xs.take i++x::xs.drop i:=by
 obtain⟨a,b,rfl,rfl⟩:∃ a b,xs=a++b/\a.length=i:=⟨xs.take i,xs.drop i,(List.take_append_drop _ _).symm,by simp;omega⟩;simp only[List.length_append] at hq;obtain rfl:q=b.length+1:=by omega
 rw[List.drop_left,List.take_left,show b.length+1-1=b.length by omega,List.take_length];have e1:over (a++List.replicate (b.length+1) z) a.length [x]=a++x::List.replicate b.length z:=by
  unfold over;rw[List.take_left,List.replicate_succ,show a++z::List.replicate b.length z=(a++[z])++List.replicate b.length z by simp,show a.length+[x].length=(a++[z]).length by simp,List.drop_left];simp
 rw[e1];unfold over;rw[show a++x::List.replicate b.length z=(a++[x])++List.replicate b.length z by simp,show a.length+1=(a++[x]).length by simp,List.take_left,List.drop_of_length_le (by simp;omega)];simp
theorem Ka {α:Type}(x:α)(p:Nat)(h:1<=p):([x].drop 0).take p=[x]:=List.take_of_length_le (by simpa using h)
theorem Nc {α:Type}{xs:List α}{i:Nat}{x:α}{p q:Nat}(h:i<=xs.length)(hp:p=xs.length-i)(hq:1<=q):over (over xs (i+1) ((xs.drop i).take p)) i (([x].drop 0).take q)=xs.take i++x::xs.drop i:=by
 rw[Ka x q hq,hp];exact a4B xs i x h
theorem Nb {α:Type}{xs:List α}{i q:Nat}{x z:α}{p r:Nat}(h:i<=xs.length)(hq:i+q=xs.length+1)(hp:p=q-1)(hr:1<=r):over (over (xs.take i++List.replicate q z) i (([x].drop 0).take r)) (i+1) ((xs.drop i).take p)=xs.take i++x::xs.drop i:=by
 rw[Ka x r hr,hp];exact a4y xs i q x z h hq
theorem a4v {gv:Nat}{x:AV}:Av.Spec prog GL 245 [J2,int 0,.lit (.slice (some ⟨gv,0,none⟩) 1 1)] [.buf gv 187 2 [x] 1] (OwnK 187 2 [x]):=by
 refine ze func245 ntmps245 λ_ hs=>?_;repeat' first|refine Wz ?_|intro
 refine GZ 0 0 ?_;repeat' first|refine Wz ?_|intro
 refine vZ 24 ?_;refine ME (λg' c' hc'=>?_);repeat' first|refine Wz ?_|intro
 exact l9 [.buf g' 187 2 [x] c'] (.inr ⟨g',c',rfl,rfl,hc'⟩) sm
theorem a4u {g gv n c i:Nat}{xs:List AV}{x:AV}(hn:xs.length=n)(hc:n<=c)(hi:i<=n)(hb:n<=1073741824):Av.Spec prog GL 245 [.lit (.slice (some ⟨g,0,none⟩) n c),int i,.lit (.slice (some ⟨gv,0,none⟩) 1 1)] [.buf g 187 2 xs c,.buf gv 187 2 [x] 1] (OwnK 187 2 (xs.take i++x::xs.drop i)):=by
 subst hn;refine ze func245 ntmps245 λ_ hs=>?_;repeat' first|refine Wz ?_|intro
 refine GZ i xs.length ?_;repeat' first|refine Wz ?_|intro
 refine w9 (λhin=>?_) (λhin=>?_)
 ·repeat' first|refine Wz ?_|intro
  refine vZ 24 ?_;refine BF (λg' c' hc'=>?_);repeat' first|refine Wz ?_|intro
  have hin':i=xs.length:=om
  subst hin';refine l9 [.buf g' 187 2 (xs++[x]) c'] (.inr ⟨g',c',?_,?_,?_⟩) sm
  ·simp[D8]
  ·simp
  simpa using hc'
 repeat' first|refine Wz ?_|intro
 have hl:(xs.take i++x::xs.drop i).length=xs.length+1:=by simp;omega
 refine w9 (λhcap=>?_) (λhcap=>?_)
 ·obtain⟨q,hq⟩:∃ q,i+q=xs.length+1:=⟨xs.length+1-i,om⟩;repeat' first|refine Wz ?_|intro
  refine gQ 0 i ?_;repeat' first|refine Wz ?_|intro
  refine Xd (i:=i) q (λg' c' hc'=>?_);repeat' first|refine Wz ?_|intro
  refine gQ i (i+q) ?_;repeat' first|refine Wz ?_|intro
  refine IC (j:=i) (j2:=0) ?_;repeat' first|refine Wz ?_|intro
  apply zf [];exact zi;intro _ _;refine gQ (i+1) (i+q) ?_;exact j3 (p9 rfl rfl);repeat' first|refine Wz ?_|intro
  apply zf [];exact zi;intro _ _;refine gQ i xs.length ?_;exact j3 (p9 rfl rfl);apply jV [0,1];exact rfl;exact rfl;kernel_rfl;intro _ _;refine IC (j:=i+1) (j2:=i) ?_;exact j3 (p9 rfl rfl);exact rfl;exact rfl;repeat' first|refine Wz ?_|intro
  rw[Nb om hq om om];refine l9 [.buf g' 187 2 _ c'] (.inr ⟨g',c',?_,rfl,?_⟩) (List.singleton_sublist.2 List.mem_cons_self)
  ·rw[hl,<- hq];rfl
  omega
 repeat' first|refine Wz ?_|intro
 refine gQ 0 (xs.length+1) ?_;repeat' first|refine Wz ?_|intro
 refine gQ (i+1) (xs.length+1) ?_;apply DY (v:=d9 false) func336;kernel_rfl;exact rfl;kernel_rfl;kernel_rfl;exact rfl;exact rfl;exact rfl
 ·intro ok w cs hS hv;exact⟨_,a2C (b:=32) (tS:=53) 4 hS (λh=>a8g (pre:=[]) (mid:=[]) hS h.symm) (List.mem_cons_of_mem _ List.mem_cons_self) List.mem_cons_self om hv,RVl rfl⟩
 repeat' first|refine Wz ?_|intro
 apply zf [];exact zi;intro _ _;refine gQ (i+1) (xs.length+1) ?_;exact j3 (p9 rfl rfl);repeat' first|refine Wz ?_|intro
 apply zf [];exact zi;intro _ _;refine gQ i (xs.length+1) ?_;exact j3 (p9 rfl rfl);apply jV [0];exact rfl;exact rfl;kernel_rfl;intro _ _;refine IC (j:=i+1) (j2:=i) ?_;exact j3 (p9 rfl rfl);exact rfl;exact rfl;repeat' first|refine Wz ?_|intro
 refine gQ i (xs.length+1) ?_;repeat' first|refine Wz ?_|intro
 refine IC (j:=i) (j2:=0) ?_;repeat' first|refine Wz ?_|intro
 rw[Nc om om om];refine l9 [.buf g 187 2 _ c] (.inr ⟨g,c,?_,rfl,?_⟩) sm
 ·rw[hl];rfl
 omega
end Go.Proofs.Z
