/- . -/
import Derived.KernelRfl
import Derived.WalkKit
import Derived.Maps.AppendAt
import Derived.Test.YtocpacdnjbjjmaaGreatDoorS01
namespace Tw
open Go Go.RowKit
theorem _root_.kr {G : Prop} (i : G := by kernel_rfl) : G := i
theorem _root_.om {G : Prop} (i : G := by omega) : G := i
theorem _root_.dc {G : Prop} (i : G := by decide) : G := i
theorem _root_.sm {G : Prop} (i : G := by simp) : G := i
def j6 (b:UInt8):Value:=.int .u8 (b.toNat:Int)
abbrev sv (l:Bs):Value:=.string ⟨l.toArray⟩
def fl (vs:List Value):List Value:=vs.flatMap fun v=>v.cells.toList
def st (vs:List Value):Value:=.agg (fl vs).toArray
@[simp] theorem a4R:fl []=[]:=rfl
@[simp] theorem lM (v:Value)(vs:List Value):fl (v::vs)=v.cells.toList++fl vs:=rfl
@[simp] theorem yD (a b:List Value):fl (a++b)=fl a++fl b:=by simp[fl]
@[simp] theorem b3u (vs:List Value):(st vs).cells=(fl vs).toArray:=rfl
def One (cs:List Value):Prop:=∀ v∈cs,v.oneCell'=true
def Good (vs:List Value):Prop:=One (fl vs)
theorem add_mid (b o j:Nat):(⟨b,o,none⟩:Addr).add j=⟨b,o+j,none⟩:=by unfold Addr.add;split <;> simp_all
def Rg (w:World)(b o:Nat)(cs:List Value):Prop:=
 ∃ C T fr,w.heap[b]?=some (.cells C T fr)/\(C.toList.drop o).take cs.length=cs
theorem Rg.cell {w:World}{b o:Nat}{cs:List Value}(h:Rg w b o cs){j:Nat}{v:Value}(hv:cs[j]?=some v):w.cell? ⟨b,o+j,none⟩=some v:=by
 obtain⟨C,T,fr,hb,he⟩:=h;rw[cell_of_row w b (o+j) C T fr hb];have hj:j<cs.length:=(List.getElem?_eq_some_iff.1 hv).1;rw[<- he,List.getElem?_take_of_lt hj,List.getElem?_drop] at hv;simpa using hv
theorem Rg.lt {w:World}{b o:Nat}{cs:List Value}(h:Rg w b o cs):b<w.heap.size:=by
 obtain⟨C,T,fr,hb,_⟩:=h;exact(Array.getElem?_eq_some_iff.1 hb).1
theorem Rg.sub {w:World}{b o:Nat}{cs:List Value}(h:Rg w b o cs)(i n:Nat):Rg w b (o+i) ((cs.drop i).take n):=by
 obtain⟨C,T,fr,hb,he⟩:=h;refine⟨C,T,fr,hb,?_⟩;have e1:(C.toList.drop (o+i)).take (cs.length-i)=cs.drop i:=by
  rw[<- List.drop_drop]
  conv=>rhs;rw[<- he]
  rw[List.drop_take]
 have e2:(cs.drop i).take n=((cs.drop i).take n).take ((cs.drop i).take n).length:=by rw[List.take_length]
 have e3:((cs.drop i).take n).length<=cs.length-i:=by simp;omega
 calc (C.toList.drop (o+i)).take ((cs.drop i).take n).length
   = ((C.toList.drop (o+i)).take (cs.length-i)).take ((cs.drop i).take n).length:=by rw[List.take_take,Nat.min_eq_left e3]
  _=(cs.drop i).take ((cs.drop i).take n).length:=by rw[e1]
  _=(cs.drop i).take n:=by
   rw[List.length_take,<- List.length_take,List.length_take];rcases Nat.le_total n (cs.drop i).length with h1|h1
   ·rw[Nat.min_eq_left h1]
   ·rw[Nat.min_eq_right h1,List.take_of_length_le h1,List.take_of_length_le (Nat.le_refl _)]
theorem a5y {α:Type}(a b c:List α):((a++b++c).drop a.length).take b.length=b:=by
 rw[List.append_assoc,List.drop_left];simp
theorem Rg.mid {w:World}{b o:Nat}{x y z:List Value}(h:Rg w b o (x++y++z)):Rg w b (o+x.length) y:=by
 have:=h.sub x.length y.length
 rwa [a5y] at this
theorem Rg.of_block {w:World}{b:Nat}{cs:List Value}{T:TypeId}{fr:Nat × Nat}(h:w.heap[b]?=some (.cells cs.toArray T fr)):Rg w b 0 cs:=
 ⟨_,T,fr,h,sm⟩
theorem Ao {P:Program}{w:World}{b o:Nat}{cs:List Value}(h:Rg w b o cs):(loadCells ⟨b,o,none⟩ cs.length).run P w=.ok cs.toArray w:=
 run_loadCells_list (P:=P) w ⟨b,o,none⟩ cs (fun j v hv=>by rw[add_mid];exact h.cell hv)
inductive Piece where
 | var (g:Nat) (T:TypeId) (vs:List Value)
 | row (v:Value) (E:TypeId) (k:Nat) (vs:List Value)
 | raw (g:Nat) (T:TypeId) (C:List Value)
def Piece.blk:Piece->Option Nat
 | .var g _ _=>some g
 | .raw g _ _=>some g
 | .row v _ _ _=>v.ownBlock
def Piece.at_ (w:World):Piece->Prop
 | .var g T vs=>w.heap[g]?=some (.cells (fl vs).toArray T (0,0))/\Good vs
 | .raw g T C=>w.heap[g]?=some (.cells C.toArray T (0,0))
 | .row v E k vs=>w.ownsRow 0 E k v vs.length (fl vs)/\Good vs/\∀ x∈vs,x.cells.size=k
structure Base where
 w:World
 ok:Nat->Prop
 md:Nat->Prop
structure St (s:Base)(ok:Nat->Prop)(m:List Piece)(w:World):Prop where
 os:w.os=s.w.os
 tape:w.tape=s.w.tape
 output:w.output=s.w.output
 size:s.w.heap.size<=w.heap.size
 old:∀ b,b<s.w.heap.size->¬ s.md b->w.heap[b]?=s.w.heap[b]?
 sub:∀ b,ok b->s.ok b
 fresh:∀ b,w.heap.size<=b->ok b
 at_:∀ p∈m,p.at_ w
 own:∀ p∈m,∀ g,p.blk=some g->g<w.heap.size/\¬ ok g/\(s.w.heap.size<=g\/s.md g)
 dis:m.Pairwise fun p q=>∀ g,p.blk=some g->q.blk≠some g
structure Stp (ok:Nat->Prop)(w:World)(ok':Nat->Prop)(w':World):Prop where
 size:w.heap.size<=w'.heap.size
 keep:∀ b,b<w.heap.size->ok b->w'.heap[b]?=w.heap[b]?/\ok' b
abbrev Ext (w w':World):Prop:=Below w.heap.size w w'
theorem Ext.trans' {a b c:World}(h:Ext a b)(k:Ext b c):Ext a c:=h.trans (k.mono h.size)
theorem Rg.stp {w w':World}{ok ok':Nat->Prop}{b o:Nat}{cs:List Value}(h:Rg w b o cs)(ho:ok b)(e:Stp ok w ok' w'):Rg w' b o cs:=by
 have hl:=h.lt;obtain⟨C,T,fr,hb,he⟩:=h;exact⟨C,T,fr,(e.keep b hl ho).1.trans hb,he⟩
def Sl (ok:Nat->Prop)(w:World)(E:TypeId)(k:Nat)(v:Value)(vs:List Value):Prop:=
 (∀ x∈vs,x.cells.size=k)/\Good vs/\∃ A c,v=.slice A vs.length c/\vs.length<=c/\c<=maxLen /\
  (0<vs.length->∃ b o,A=some ⟨b,o,none⟩/\ok b/\E=E/\Rg w b o (fl vs))
theorem Sl.stp {w w':World}{ok ok':Nat->Prop}{E:TypeId}{k:Nat}{v:Value}{vs:List Value}(h:Sl ok w E k v vs)(e:Stp ok w ok' w'):Sl ok' w' E k v vs:=by
 obtain⟨h1,h2,A,c,hv,hc,hm,hr⟩:=h;refine⟨h1,h2,A,c,hv,hc,hm,fun hn=>?_⟩;obtain⟨b,o,hA,ho,_,hg⟩:=hr hn;have hk:=e.keep b hg.lt ho;exact⟨b,o,hA,hk.2,rfl,hg.stp ho e⟩
theorem nA {vs:List Value}{k:Nat}(h:∀ x∈vs,x.cells.size=k):(fl vs).length=vs.length*k:=by
 induction vs with
 | nil=>simp
 | cons v vs ih=>
  simp only[lM,List.length_append,List.length_cons,Array.length_toList];rw[ih (fun x hx=>h x (by simp[hx])),h v sm,Nat.add_mul];omega
theorem Ke {vs:List Value}{i:Nat}(hi:i<vs.length):fl vs=fl (vs.take i)++vs[i].cells.toList++fl (vs.drop (i+1)):=by
 conv=>lhs;rw[<- List.take_append_drop i vs]
 rw[List.drop_eq_getElem_cons hi,yD,lM,laa]
theorem Good.of_sub {a b:List Value}(h:Good a)(hs:∀ x∈b,x∈a):Good b:=by
 intro v hv;obtain⟨x,hx,hvx⟩:=List.mem_flatMap.1 hv;exact h v (List.mem_flatMap.2 ⟨x,hs x hx,hvx⟩)
theorem Good.append {a b:List Value}(h:Good a)(k:Good b):Good (a++b):=by
 intro v hv;rw[yD,List.mem_append] at hv;rcases hv with hv|hv
 ·exact h v hv
 ·exact k v hv
theorem Good.nil:Good []:=by simp[Good,One]
theorem Good.cons {v:Value}{vs:List Value}(h:One v.cells.toList)(k:Good vs):Good (v::vs):=by
 intro x hx;rw[lM,List.mem_append] at hx;rcases hx with hx|hx
 ·exact h x hx
 ·exact k x hx
theorem Good.set {vs:List Value}{x:Value}(h:Good vs)(hx:One x.cells.toList)(i:Nat):Good (vs.set i x):=by
 intro v hv;obtain⟨y,hy,hvy⟩:=List.mem_flatMap.1 hv;rcases List.mem_or_eq_of_mem_set hy with hy|rfl
 ·exact h v (List.mem_flatMap.2 ⟨y,hy,hvy⟩)
 ·exact hx v hvy
theorem Good.one {vs:List Value}(h:Good vs){x:Value}(hx:x∈vs):One x.cells.toList:=fun v hv=>h v (List.mem_flatMap.2 ⟨x,hx,hv⟩)
theorem Sl.elem {ok:Nat->Prop}{w:World}{E:TypeId}{k:Nat}{A:Option Addr}{n c:Nat}{vs:List Value}(h:Sl ok w E k (.slice A n c) vs){i:Nat}(hi:i<vs.length) :
  ∃ b o,A=some ⟨b,o,none⟩/\ok b/\Rg w b (o+i*k) vs[i].cells.toList:=by
 obtain⟨h1,_,A',c',hv,hc,hm,hr⟩:=h;obtain⟨b,o,hA,ho,_,hg⟩:=hr om;injection hv with hv1 hv2 hv3
 subst hv1;refine⟨b,o,hA,ho,?_⟩;rw[Ke hi] at hg;have:=hg.mid;rw[nA (k:=k) (fun x hx=>h1 x (List.mem_of_mem_take hx))] at this
 rwa [show (vs.take i).length=i by simp;omega] at this
section
variable {s:Base} {ok:Nat->Prop} {m:List Piece} {w:World}
theorem Piece.at_of_block {w w':World}{p:Piece}(h:p.at_ w)(hb:∀ g,p.blk=some g->w'.heap[g]?=w.heap[g]?):p.at_ w':=by
 cases p with
 | var g T vs=>exact⟨(hb g rfl).trans h.1,h.2⟩
 | raw g T C=>exact(hb g rfl).trans h
 | row v E k vs=>
  obtain⟨⟨h1,h2⟩,h3⟩:=h;refine⟨⟨h1,?_⟩,h3⟩;rcases h2 with h2|⟨g,cap,x9,hv,hg,hh,r⟩
  ·exact .inl h2
  ·exact .inr ⟨g,cap,x9,hv,hg,(hb g (by subst hv;rfl)).trans hh,r⟩
theorem St.ext {w':World}(h:St s ok m w)(e:Ext w w'):St s ok m w' where
 os:=e.os.trans h.os
 tape:=e.tape.trans h.tape
 output:=e.output.trans h.output
 size:=Nat.le_trans h.size e.size
 old b hb hm:=(e.block b (Nat.lt_of_lt_of_le hb h.size)).trans (h.old b hb hm)
 sub:=h.sub
 fresh b hb:=h.fresh b (Nat.le_trans e.size hb)
 at_ p hp:=Piece.at_of_block (h.at_ p hp) fun g hg=>e.block g (h.own p hp g hg).1
 own p hp g hg:=let ⟨a,b,c⟩:=h.own p hp g hg;⟨Nat.lt_of_lt_of_le a e.size,b,c⟩
 dis:=h.dis
theorem Ext.drew (w:World):Ext w w.drew:=(Below.refl _ _).drew
theorem Ext.alloc (w:World)(o:Obj):Ext w (w.alloc o):=(Below.refl _ _).alloc (Nat.le_refl _) o
structure Ex (ok:Nat->Prop)(w:World)(ok':Nat->Prop)(w':World):Prop where
 ext:Ext w w'
 sub:∀ b,ok' b->ok b
 keep:∀ b,b<w.heap.size->ok b->ok' b
theorem Ex.refl (ok:Nat->Prop)(w:World):Ex ok w ok w:=⟨Below.refl _ _,fun _ h=>h,fun _ _ h=>h⟩
theorem Ex.trans {ok ok1 ok2:Nat->Prop}{w w1 w2:World}(h:Ex ok w ok1 w1)(k:Ex ok1 w1 ok2 w2):Ex ok w ok2 w2:=
 ⟨Ext.trans' h.ext k.ext,fun b hb=>h.sub b (k.sub b hb),fun b hb ho=>k.keep b (Nat.lt_of_lt_of_le hb h.ext.size) (h.keep b hb ho)⟩
theorem Ex.stp {ok ok':Nat->Prop}{w w':World}(h:Ex ok w ok' w'):Stp ok w ok' w':=⟨h.ext.size,fun b hb ho=>⟨h.ext.block b hb,h.keep b hb ho⟩⟩
theorem Ex.of_ext {w w':World}(h:Ext w w')(ok:Nat->Prop):Ex ok w ok w':=⟨h,fun _ h=>h,fun _ _ h=>h⟩
theorem St.newVar (h:St s ok m w)(T:TypeId)(vs:List Value)(hg:Good vs) :
  St s (fun b=>ok b/\b≠w.heap.size) (.var w.heap.size T vs::m) (w.alloc (.cells (fl vs).toArray T)) /\
   Ex ok w (fun b=>ok b/\b≠w.heap.size) (w.alloc (.cells (fl vs).toArray T)):=by
 have he:=h.ext (Ext.alloc w (.cells (fl vs).toArray T));refine⟨⟨he.os,he.tape,he.output,he.size,he.old,fun b hb=>h.sub b hb.1,?_,?_,?_,?_⟩,⟨Ext.alloc _ _,fun _ hb=>hb.1,?_⟩⟩
 ·intro b hb;have:w.heap.size+1<=b:=by simpa using hb
  exact⟨h.fresh b om,om⟩
 ·intro p hp;rcases List.mem_cons.1 hp with rfl|hp
  ·exact⟨heap_alloc_new w _,hg⟩
  ·exact he.at_ p hp
 ·intro p hp g hg;rcases List.mem_cons.1 hp with rfl|hp
  ·injection hg with hg
   subst hg;exact⟨sm,fun hh=>hh.2 rfl,.inl h.size⟩
  ·obtain⟨a,b,c⟩:=he.own p hp g hg;exact⟨a,fun hh=>b hh.1,c⟩
 ·refine List.pairwise_cons.2 ⟨fun q hq g hg hq'=>?_,h.dis⟩;injection hg with hg
  subst hg;exact absurd (h.own q hq _ hq').1 (Nat.lt_irrefl _)
 ·intro b hb ho;exact⟨ho,om⟩
theorem St.write {w':World}{p p':Piece}{pre post:List Piece}(h:St s ok (pre++p::post) w)(hp':p'.at_ w'){g:Nat}(hb:p.blk=some g)(hb':p'.blk=some g)
  (hsz:w'.heap.size=w.heap.size) (hos:w'.os=w.os) (htp:w'.tape=w.tape) (hou:w'.output=w.output) (hk:∀ b,b≠g->w'.heap[b]?=w.heap[b]?) :
  St s ok (pre++p'::post) w'/\Stp ok w ok w':=by
 have hpm:p∈pre++p::post:=sm
 obtain⟨hlt,hno,hold⟩:=h.own p hpm g hb;have hdis:=h.dis;rw[List.pairwise_append,List.pairwise_cons] at hdis;obtain⟨d1,⟨d2,d3⟩,d4⟩:=hdis;have hne:∀ q,q∈pre\/q∈post->∀ g',q.blk=some g'->g'≠g:=by
  rintro q (hq|hq) g' hg' rfl
  ·exact d4 q hq p sm g' hg' hb
  ·exact d2 q hq g' hb hg'
 refine⟨⟨hos.trans h.os,htp.trans h.tape,hou.trans h.output,by rw[hsz];exact h.size,?_,h.sub,by rw[hsz];exact h.fresh,?_,?_,?_⟩,⟨by rw[hsz];exact Nat.le_refl _,fun b _ ho=>⟨hk b (by rintro rfl;exact hno ho),ho⟩⟩⟩
 ·intro b hb1 hb2;rw[hk b (by
   rintro rfl;rcases hold with hold|hold
   ·omega
   ·exact hb2 hold)]
  exact h.old b hb1 hb2
 ·intro q hq;rw[List.mem_append,List.mem_cons] at hq;rcases hq with hq|rfl|hq
  ·exact Piece.at_of_block (h.at_ q (by simp[hq])) fun g' hg'=>hk g' (hne q (.inl hq) g' hg')
  ·exact hp'
  ·exact Piece.at_of_block (h.at_ q (by simp[hq])) fun g' hg'=>hk g' (hne q (.inr hq) g' hg')
 ·intro q hq g' hg';rw[hsz];rw[List.mem_append,List.mem_cons] at hq;rcases hq with hq|rfl|hq
  ·exact h.own q (by simp[hq]) g' hg'
  ·rw[hb'] at hg';injection hg' with hg'
   subst hg';exact⟨hlt,hno,hold⟩
  ·exact h.own q (by simp[hq]) g' hg'
 ·rw[List.pairwise_append,List.pairwise_cons];refine⟨d1,⟨fun q hq g' hg'=>?_,d3⟩,fun q hq r hr g' hg'=>?_⟩
  ·rw[hb'] at hg';injection hg' with hg'
   subst hg';exact d2 q hq g hb
  ·rcases List.mem_cons.1 hr with rfl|hr
   ·rw[hb'];intro e;injection e with e
    exact hne q (.inl hq) g' hg' e.symm
   ·exact d4 q hq r (by simp[hr]) g' hg'
end
end Tw
namespace Tw
open Go Go.RowKit
abbrev Env:=List (Nat × Value)
def lk:Env->Nat->Option Value
 | [],_=>none
 | (t,v)::e,s=>bif Nat.beq t s then some v else lk e s
structure Sat (N:Nat)(e:Env)(a:Act):Prop where
 size:a.tmps.size=N
 defers:a.defers=[]
 env:∀ t v,lk e t=some v->a.tmps.getD t undef=v
theorem bE {a b:Nat}(h:a≠b):Nat.beq a b=false:=by
 cases hb:Nat.beq a b with
 | false=>rfl
 | true=>exact absurd (Nat.eq_of_beq_eq_true hb) h
def ev (e:Env):Operand->Option Value
 | .tmp t=>lk e t
 | .const v=>some v
 | .global g=>some (.pointer (some ⟨g,0,none⟩))
 | .func f=>some (.func (.func f) #[] #[])
def L8 (e:Env):List Operand->Option (List Value)
 | []=>some []
 | x::xs=>match ev e x,L8 e xs with
  | some v,some vs=>some (v::vs)
  | _,_=>none
section
variable {P:Program} {N:Nat} {e:Env} {a:Act} {w:World} {Q:Exit->Act->World->Prop}
theorem Sat.eval {x:Operand}{v:Value}(h:Sat N e a)(hx:ev e x=some v):a.eval x=v:=by
 cases x with
 | tmp t=>exact h.env t v hx
 | const u=>simpa[ev,Act.eval] using hx
 | global g=>simpa[ev,Act.eval] using hx
 | func f=>simpa[ev,Act.eval] using hx
theorem Sat.evals (h:Sat N e a):∀ {xs:List Operand} {vs:List Value},L8 e xs=some vs->xs.map a.eval=vs
 | [],vs,hx=>by simpa[L8] using hx
 | x::xs,vs,hx=>by
  unfold L8 at hx;cases h1:ev e x with
  | none=>simp[h1] at hx
  | some v=>
   cases h2:L8 e xs with
   | none=>simp[h1,h2] at hx
   | some us=>
    simp[h1,h2] at hx;subst hx;simp[h.eval h1,h.evals h2]
theorem Sat.put {d:Nat}{v:Value}(h:Sat N e a)(hd:Nat.blt d N=true):Sat N ((d,v)::e) (a.put (some d) v):=by
 have hd':d<N:=by
  have:d+1<=N:=by simpa[Nat.blt,Nat.ble_eq] using hd
  exact this
 refine⟨by simp[Act.put,h.size],by simp[Act.put,h.defers],fun t u ht=>?_⟩;unfold lk at ht;by_cases htd:d=t
 ·subst htd;simp at ht;subst ht;simp[Act.put,h.size,hd']
 ·have:Nat.beq d t=false:=bE htd;simp[this] at ht;simp[Act.put,Array.getElem?_setIfInBounds_ne htd];simpa using h.env t u ht
def sF:Env->Env->Prop
 | [],_=>True
 | p::r,e=>lk e p.1=some p.2/\sF r e
theorem Sat.weak {e':Env}(h:Sat N e a)(hs:sF e' e):Sat N e' a:=by
 refine⟨h.size,h.defers,?_⟩
 induction e' with
 | nil=>intro t v ht;simp[lk] at ht
 | cons p r ih=>
  intro t v ht;unfold lk at ht;by_cases hp:p.1=t
  ·subst hp;simp at ht;subst ht;exact h.env _ _ hs.1
  ·have:Nat.beq p.1 t=false:=bE hp;simp[this] at ht;exact ih hs.2 t v ht
def WL (P:Program)(N:Nat)(ops:Array Oper)(Q:Exit->Act->World->Prop)(l:List Oper)(e:Env)(w:World):Prop:=∀ a,Sat N e a->wpList P ops Q l a w
def WC (P:Program)(N:Nat)(c:Code)(Q:Exit->Act->World->Prop)(e:Env)(w:World):Prop:=∀ a,Sat N e a->c.wp P Q a w
def WE (N:Nat)(x:Exit)(Q:Exit->Act->World->Prop)(e:Env)(w:World):Prop:=∀ a,Sat N e a->Q x a w
theorem YD {x y:Code}(h:WC P N x (Exit.then (fun a w=>y.wp P Q a w) Q) e w):WC P N (.seq x y) Q e w:=fun a ha=>wp_seq (h a ha)
theorem Vp {id:Nat}{c:Code}(h:WC P N c (Exit.inBlock id Q) e w):WC P N (.block id c) Q e w:=fun a ha=>wp_block (h a ha)
theorem Vk (h:WE N .normal Q e w):WC P N .skip Q e w:=fun a ha=>wp_skip (h a ha)
theorem Vm {id:Nat}(h:WE N (.exit id) Q e w):WC P N (.exit id) Q e w:=fun a ha=>wp_exit (h a ha)
theorem Vl (h:WE N .ret Q e w):WC P N .ret Q e w:=fun a ha=>wp_ret (h a ha)
theorem oJ {c:Operand}{x y:Code}{p:Prop}[Decidable p](hc:ev e c=some (.bool (decide p)))(ht:p->WC P N x Q e w)(hf:¬ p->WC P N y Q e w):WC P N (.cond c x y) Q e w:=fun a ha=>
 wp_cond_split (ha.eval hc) (fun h=>ht (of_decide_eq_true h) a ha) (fun h=>hf (of_decide_eq_false h) a ha)
theorem Vn {c:Operand}{x y:Code}(hc:ev e c=some (.bool true))(h:WC P N x Q e w):WC P N (.cond c x y) Q e w:=fun a ha=>wp_cond_true (ha.eval hc) (h a ha)
theorem Vo {c:Operand}{x y:Code}(hc:ev e c=some (.bool false))(h:WC P N y Q e w):WC P N (.cond c x y) Q e w:=fun a ha=>wp_cond_false (ha.eval hc) (h a ha)
theorem Vh {c:Code}{Q':Exit->Act->World->Prop}(h:WC P N c Q' e w):WE N .normal (Exit.then (fun a w=>c.wp P Q' a w) Q) e w:=h
theorem Vg {K:Act->World->Prop}{id:Nat}(h:WE N (.exit id) Q e w):WE N (.exit id) (Exit.then K Q) e w:=h
theorem Vj {id:Nat}(h:WE N .normal Q e w):WE N .normal (Exit.inBlock id Q) e w:=h
theorem Vi {id:Nat}(h:WE N .normal Q e w):WE N (.exit id) (Exit.inBlock id Q) e w:=fun a ha=>by
 show Exit.inBlock id Q (.exit id) a w;simp only[Exit.inBlock,if_true];exact h a ha
theorem YE {id:Nat}{l:List Oper}(h:WL P N l.toArray Q l e w):WC P N (.region id l.toArray false) Q e w:=fun a ha=>wp_region_lit (h a ha)
theorem Tm {ops:Array Oper}(h:WE N .normal Q e w):WL P N ops Q [] e w:=h
noncomputable def least {α:Type} (I:α->Act->World->Prop) (μ:α->Nat) (a:Act) (w:World):Nat:=
 Classical.epsilon fun k=>(∃ x,μ x=k/\I x a w)/\∀ y,I y a w->k<=μ y
theorem Gd {α:Type}(I:α->Act->World->Prop)(μ:α->Nat)(a:Act)(w:World)(x:α)(h:I x a w) :
  (∃ x,μ x=least I μ a w/\I x a w)/\∀ y,I y a w->least I μ a w<=μ y:=by
 have hex:∃ k,(∃ x,μ x=k/\I x a w)/\∀ y,I y a w->k<=μ y:=by
  have:∀ n x,μ x<=n->I x a w->∃ k,(∃ x,μ x=k/\I x a w)/\∀ y,I y a w->k<=μ y:=by
   intro n
   induction n with
   | zero=>exact fun x h1 h2=>⟨0,⟨x,om,h2⟩,fun _ _=>Nat.zero_le _⟩
   | succ n ih=>
    intro x h1 h2;by_cases hb:∃ y,μ y<μ x/\I y a w
    ·obtain⟨y,hy1,hy2⟩:=hb;exact ih y om hy2
    ·exact⟨μ x,⟨x,rfl,h2⟩,fun y h4=>Nat.le_of_not_lt fun h=>hb ⟨y,h,h4⟩⟩
  exact this _ x (Nat.le_refl _) h
 exact Classical.epsilon_spec hex
theorem wp_loop_ghost {c:Code}{α:Type}(I:α->Act->World->Prop)(μ:α->Nat)(x:α)(h0:I x a w)
  (round:∀ x a w,I x a w->c.wp P (Exit.then (fun a' w'=>∃ y,μ y<μ x/\I y a' w') Q) a w):(Code.loop c).wp P Q a w:=by
 refine wp_loop (fun a w=>∃ x,I x a w) (least I μ) ⟨x,h0⟩ ?_;rintro a w ⟨x1,h1⟩;obtain⟨⟨x2,hx2,h2⟩,_⟩:=Gd I μ a w x1 h1;refine wp_mono (round x2 a w h2) fun ex a' w' hx=>?_;cases ex <;> try exact hx
 obtain⟨y,hy1,hy2⟩:=hx;have:=(Gd I μ a' w' y hy2).2 y hy2;exact⟨⟨y,hy2⟩,om⟩
theorem rU {c:Code}{α:Type}(I:α->Env)(F:α->World->Prop)(μ:α->Nat)(x:α)(h0:sF (I x) e)(hF:F x w)
  (round:∀ x w,F x w->WC P N c (Exit.then (fun a' w'=>∃ y,μ y<μ x/\Sat N (I y) a'/\F y w') Q) (I x) w):WC P N (.loop c) Q e w:=fun _ ha=>
 wp_loop_ghost (fun x a w=>Sat N (I x) a/\F x w) μ x ⟨ha.weak h0,hF⟩ fun x _ w ⟨h1,h2⟩=>round x w h2 _ h1
theorem mF {α:Type}{I:α->Env}{F:α->World->Prop}{μ:α->Nat}{n:Nat}(y:α)(hs:sF (I y) e)(hF:F y w)(hm:μ y<n) :
  WE N .normal (Exit.then (fun a' w'=>∃ y,μ y<n/\Sat N (I y) a'/\F y w') Q) e w:=fun _ ha=>⟨y,hm,ha.weak hs,hF⟩
end
end Tw
namespace Tw
open Go Go.RowKit
section
variable {P:Program} {N:Nat} {ops:Array Oper} {Q:Exit->Act->World->Prop} {rest:List Oper} {e:Env} {w w':World} {d:Nat} {ty:TypeId} {pos:String} {af:Array Edge}
theorem O3 {op:Op}{v:Value}(hrun:∀ a,Sat N e a->(execOp a.eval ⟨some d,op,ty,pos,af,none⟩).run P w=.ok (.value v) w')(hd:Nat.blt d N=true)
  (h:WL P N ops Q rest ((d,v)::e) w'):WL P N ops Q (⟨some d,op,ty,pos,af,none⟩::rest) e w:=fun a ha=>
 wpList_plain rfl fun K hK=>by
  unfold Oper.wp;rw[hrun a ha];exact hK _ _ (h _ (ha.put hd))
theorem PS {op:Op}(hrun:∀ a,Sat N e a->(execOp a.eval ⟨none,op,ty,pos,af,none⟩).run P w=.ok .skip w')(h:WL P N ops Q rest e w'):WL P N ops Q (⟨none,op,ty,pos,af,none⟩::rest) e w:=fun a ha=>
 wpList_plain rfl fun K hK=>by
  unfold Oper.wp;rw[hrun a ha];exact hK _ _ (h _ ha)
theorem XT {x:Operand}{v:Value}(hx:ev e x=some v)(hd:Nat.blt d N=true)(h:WL P N ops Q rest ((d,v)::e) w):WL P N ops Q (⟨some d,.move x,ty,pos,af,none⟩::rest) e w:=
 O3 (fun a ha=>by simp[execOp,ha.eval hx]) hd h
theorem XY {x:Operand}{v:Value}(hx:ev e x=some v)(hd:Nat.blt d N=true)(h:WL P N ops Q rest ((d,v)::e) w):WL P N ops Q (⟨some d,.assign x,ty,pos,af,none⟩::rest) e w:=
 O3 (fun a ha=>by simp[execOp,ha.eval hx]) hd h
theorem Td {c x y:Operand}{v:Value}(hc:ev e c=some (.bool true))(hx:ev e x=some v)(hd:Nat.blt d N=true)(h:WL P N ops Q rest ((d,v)::e) w):WL P N ops Q (⟨some d,.pick c x y,ty,pos,af,none⟩::rest) e w:=
 O3 (fun a ha=>by simp[execOp,ha.eval hc,ha.eval hx,asBool]) hd h
theorem Te {c x y:Operand}{v:Value}(hc:ev e c=some (.bool false))(hy:ev e y=some v)(hd:Nat.blt d N=true)(h:WL P N ops Q rest ((d,v)::e) w):WL P N ops Q (⟨some d,.pick c x y,ty,pos,af,none⟩::rest) e w:=
 O3 (fun a ha=>by simp[execOp,ha.eval hc,ha.eval hy,asBool]) hd h
theorem Tg {op:Op}{dst:Option Tmp}{g:Nat}{b:Bool}{t:Nat}(ht:(ops[g]?).bind (·.dst)=some t)(hb:lk e t=some (.bool b))(h:∀ a,Sat N e a->wpList P ops Q (⟨dst,op,ty,pos,af,none⟩::rest) a w) :
  WL P N ops Q (⟨dst,op,ty,pos,af,some (g,b)⟩::rest) e w:=fun a ha=>by
 have hv:a.tmps[t]?.getD undef=.bool b:=by simpa using ha.env t _ hb
 have hy:yielded ops a.tmps g=some b:=by
  have hlt:t<a.tmps.size:=by
   rcases Nat.lt_or_ge t a.tmps.size with h1|h1
   ·exact h1
   ·rw[Array.getElem?_eq_none h1] at hv;simp[undef] at hv
  have hv2:a.tmps[t]?=some (.bool b):=by
   rw[Array.getElem?_eq_getElem hlt] at hv ⊢;simpa using hv
  simp[yielded,ht,hv2]
 have hw:Region.wanted ⟨dst,op,ty,pos,af,some (g,b)⟩ (yielded ops a.tmps)=true:=by simp[Region.wanted,hy]
 have:=h a ha;unfold wpList at this ⊢;simp only[Region.wanted,if_true,hy,beq_self_eq_true] at this ⊢;exact this
theorem Ti {op:Op}{g:Nat}{b:Bool}{t:Nat}(ht:(ops[g]?).bind (·.dst)=some t)(hb:lk e t=some (.bool (!b)))(hd:Nat.blt d N=true)(h:WL P N ops Q rest ((d,undef)::e) w) :
  WL P N ops Q (⟨some d,op,ty,pos,af,some (g,b)⟩::rest) e w:=fun a ha=>by
 have hv:a.tmps[t]?.getD undef=.bool (!b):=by simpa using ha.env t _ hb
 have hy:yielded ops a.tmps g=some (!b):=by
  have hlt:t<a.tmps.size:=by
   rcases Nat.lt_or_ge t a.tmps.size with h1|h1
   ·exact h1
   ·rw[Array.getElem?_eq_none h1] at hv;simp[undef] at hv
  have hv2:a.tmps[t]?=some (.bool (!b)):=by
   rw[Array.getElem?_eq_getElem hlt] at hv ⊢;simpa using hv
  simp[yielded,ht,hv2]
 unfold wpList;rw[if_neg (by simp[Region.wanted,hy])];exact h _ (ha.put hd)
theorem jW {op:BinOp}{T yT:TypeId}{k:IntKind}{x y:Operand}{a b:Int}{v:Value}(hx:ev e x=some (.int k a))(hy:ev e y=some (.int k b))
  (h:(binOp op T (.int k a) (.int k b)).run P w=.ok v w):∀ A,Sat N e A->(execOp A.eval ⟨some d,.binOp op T x y yT,ty,pos,af,none⟩).run P w=.ok (.value v) w:=fun A hA=>by
 have hg:(eqGuard op T x y (.int k a) (.int k b)).run P w=.ok () w:=by
  unfold eqGuard;split <;> rfl
 simp[execOp,hA.eval hx,hA.eval hy,hg,h]
def arith:BinOp->Int->Int->Option Int
 | .add,a,b=>some (a+b)
 | .sub,a,b=>some (a-b)
 | .mul,a,b=>some (a*b)
 | _,_,_=>none
def cmp:BinOp->Int->Int->Option Bool
 | .lss,a,b=>some (decide (a<b))
 | .leq,a,b=>some (decide (a<=b))
 | .gtr,a,b=>some (decide (b<a))
 | .geq,a,b=>some (decide (b<=a))
 | .eql,a,b=>some (decide (a=b))
 | .neq,a,b=>some (decide (a≠b))
 | _,_,_=>none
theorem zV {op:BinOp}{T:TypeId}{k:IntKind}{a b c:Int}(h:arith op a b=some c):(binOp op T (.int k a) (.int k b)).run P w=.ok (.int k (k.wrap c)) w:=by
 cases op <;> (first|(cases h;done)|(injection h with h;subst h;simp[binOp,Op.intArith]))
theorem Ap {op:BinOp}{T:TypeId}{k:IntKind}{a b:Int}{c:Bool}(h:cmp op a b=some c):(binOp op T (.int k a) (.int k b)).run P w=.ok (.bool c) w:=by
 have hne:(a != b)=decide (a≠b):=by by_cases h:a=b <;> simp[h]
 have heq:(a == b)=decide (a=b):=by by_cases h:a=b <;> simp[h]
 cases op <;> (first|(cases h;done)|(injection h with h;subst h;simp only[binOp,Op.intCmp,ne_eq,not_true,if_false,hne,heq];rfl))
theorem rR {c:Int}(h1:-9223372036854775808<=c)(h2:c<=9223372036854775807):IntKind.i64.wrap c=c:=by
 rw[IntKind.wrap_i64];omega
theorem Ur {op:BinOp}{T yT:TypeId}{x y:Operand}{a b c:Int}(hx:ev e x=some (.int .i64 a))(hy:ev e y=some (.int .i64 b))(hc:arith op a b=some c)
  (h1:-9223372036854775808<=c) (h2:c<=9223372036854775807) (hd:Nat.blt d N=true) (h:WL P N ops Q rest ((d,.int .i64 c)::e) w) :
  WL P N ops Q (⟨some d,.binOp op T x y yT,ty,pos,af,none⟩::rest) e w:=
 O3 (jW hx hy (by rw[zV hc,rR h1 h2])) hd h
theorem XZ {op:BinOp}{T yT:TypeId}{k:IntKind}{x y:Operand}{a b c:Int}(hx:ev e x=some (.int k a))(hy:ev e y=some (.int k b))(hc:arith op a b=some c)
  (hd:Nat.blt d N=true) (h:WL P N ops Q rest ((d,.int k (k.wrap c))::e) w) :
  WL P N ops Q (⟨some d,.binOp op T x y yT,ty,pos,af,none⟩::rest) e w:=
 O3 (jW hx hy (zV hc)) hd h
theorem Uk {op:BinOp}{T yT:TypeId}{k:IntKind}{x y:Operand}{a b:Int}{c:Bool}(hx:ev e x=some (.int k a))(hy:ev e y=some (.int k b))(hc:cmp op a b=some c)
  (hd:Nat.blt d N=true) (h:WL P N ops Q rest ((d,.bool c)::e) w) :
  WL P N ops Q (⟨some d,.binOp op T x y yT,ty,pos,af,none⟩::rest) e w:=
 O3 (jW hx hy (Ap hc)) hd h
def HZ:BinOp->Int->Int->Option Int
 | .quo,a,b=>some (a / b)
 | .rem,a,b=>some (a%b)
 | _,_,_=>none
theorem DT {op:BinOp}{T yT:TypeId}{k:IntKind}{x y:Operand}{a b c:Int}(hx:ev e x=some (.int k a))(hy:ev e y=some (.int k b))(hc:HZ op a b=some c)
  (h0:0<=a) (h1:0<b) (h2:∀ c,0<=c->c<=a->k.wrap c=c) (hd:Nat.blt d N=true) (h:WL P N ops Q rest ((d,.int k c)::e) w) :
  WL P N ops Q (⟨some d,.binOp op T x y yT,ty,pos,af,none⟩::rest) e w:=
 O3 (jW hx hy (by
  have hb:b≠0:=om
  cases op <;> simp[HZ] at hc <;> subst hc <;> simp[binOp,Op.intDiv,hb]
  ·rw[Int.tdiv_eq_ediv_of_nonneg h0];exact h2 _ (Int.ediv_nonneg h0 om) (Int.ediv_le_self _ h0)
  ·exact Int.tmod_eq_emod_of_nonneg h0)) hd h
theorem Uq {op:BinOp}{T yT:TypeId}{k:IntKind}{x y:Operand}{a b:Int}{v:Value}(hx:ev e x=some (.int k a))(hy:ev e y=some (.int k b))(hc:∀ w,(Op.intBits op k a b).run P w=.ok v w)
  (ho:op=.and\/op=.or\/op=.xor\/op=.andNot) (hd:Nat.blt d N=true) (h:WL P N ops Q rest ((d,v)::e) w) :
  WL P N ops Q (⟨some d,.binOp op T x y yT,ty,pos,af,none⟩::rest) e w:=
 O3 (jW hx hy (by rcases ho with rfl|rfl|rfl|rfl <;> simp[binOp,hc])) hd h
theorem XR {op:BinOp}{T yT:TypeId}{k yk:IntKind}{x y:Operand}{a b:Int}{v:Value}(hx:ev e x=some (.int k a))(hy:ev e y=some (.int yk b))(hc:∀ w,(Op.shift op k a yk b).run P w=.ok v w)
  (ho:op=.shl\/op=.shr) (hd:Nat.blt d N=true) (h:WL P N ops Q rest ((d,v)::e) w) :
  WL P N ops Q (⟨some d,.binOp op T x y yT,ty,pos,af,none⟩::rest) e w:=
 O3 (fun A hA=>by
  have hg:(eqGuard op T x y (.int k a) (.int yk b)).run P w=.ok () w:=by
   unfold eqGuard;split <;> rfl
  rcases ho with rfl|rfl <;> simp[execOp,hA.eval hx,hA.eval hy,hg,binOp,hc]) hd h
theorem Tj {T:TypeId}{x:Operand}{b:Bool}(hx:ev e x=some (.bool b))(hd:Nat.blt d N=true)(h:WL P N ops Q rest ((d,.bool (!b))::e) w):WL P N ops Q (⟨some d,.unOp .not T x,ty,pos,af,none⟩::rest) e w:=
 O3 (fun a ha=>by simp[execOp,ha.eval hx,Op.unary]) hd h
theorem Uh {S D:TypeId}{k k':IntKind}{x:Operand}{n:Int}{dS:TypeDesc}(hS:P.underlying S=some dS)(hD:P.underlying D=some (.int k'))(hx:ev e x=some (.int k n))(hd:Nat.blt d N=true)
  (h:WL P N ops Q rest ((d,.int k' (k'.wrap n))::e) w):WL P N ops Q (⟨some d,.convert S D x,ty,pos,af,none⟩::rest) e w:=
 O3 (fun a ha=>by simp[execOp,ha.eval hx,convert,run_underlying hS,run_underlying hD,Conv.intToInt]) hd h
theorem EP {op:BinOp}{T yT:TypeId}{x y:Operand}{a b:ByteArray}{v:Value}(hx:ev e x=some (.string a))(hy:ev e y=some (.string b))
  (h:(Op.stringOp op a b).run P w=.ok v w) (ho:op≠.shl/\op≠.shr):∀ A,Sat N e A->(execOp A.eval ⟨some d,.binOp op T x y yT,ty,pos,af,none⟩).run P w=.ok (.value v) w:=fun A hA=>by
 have hg:(eqGuard op T x y (.string a) (.string b)).run P w=.ok () w:=by
  unfold eqGuard;split <;> rfl
 have hb:binOp op T (.string a) (.string b)=Op.stringOp op a b:=by cases op <;> rfl
 simp[execOp,hA.eval hx,hA.eval hy,hg,hb,h]
theorem jS (l:Bs):(⟨l.toArray⟩:ByteArray).size=l.length:=by simp[ByteArray.size]
theorem YR (l:Bs):(⟨l.toArray⟩:ByteArray).toList=l:=by simp
theorem Pk (a b:Bs):((⟨a.toArray⟩:ByteArray)++⟨b.toArray⟩)=⟨(a++b).toArray⟩:=by
 apply ByteArray.ext;simp
theorem JF {T yT:TypeId}{x y:Operand}{a b:Bs}(hx:ev e x=some (sv a))(hy:ev e y=some (sv b))(hl:a.length+b.length<=9223372036854775807)(hd:Nat.blt d N=true)
  (h:WL P N ops Q rest ((d,sv (a++b))::e) w):WL P N ops Q (⟨some d,.binOp .add T x y yT,ty,pos,af,none⟩::rest) e w:=
 O3 (EP hx hy (by
  have:¬ ((a.length+b.length:Nat):Int) > IntKind.i64.max:=by simp[IntKind.max,IntKind.bits,IntKind.signed];omega
  simp only[Op.stringOp,jS,this,if_false,Pk];rfl) sm) hd h
def blt (a b:Bs):Bool:=Op.bytesLess a b
def NP:BinOp->Bs->Bs->Option Bool
 | .lss,a,b=>some (blt a b)
 | .leq,a,b=>some (blt a b || decide (a=b))
 | .gtr,a,b=>some (!(blt a b || decide (a=b)))
 | .geq,a,b=>some (!(blt a b))
 | .eql,a,b=>some (decide (a=b))
 | .neq,a,b=>some (decide (a≠b))
 | _,_,_=>none
theorem Uj {op:BinOp}{T yT:TypeId}{x y:Operand}{a b:Bs}{c:Bool}(hx:ev e x=some (sv a))(hy:ev e y=some (sv b))(hc:NP op a b=some c)(hd:Nat.blt d N=true)
  (h:WL P N ops Q rest ((d,.bool c)::e) w):WL P N ops Q (⟨some d,.binOp op T x y yT,ty,pos,af,none⟩::rest) e w:=
 O3 (EP hx hy (by
  have hq:∀ a b:Bs,(a == b)=decide (a=b):=fun a b=>by by_cases h:a=b <;> simp[h]
  cases op <;> (first|(cases hc;done)|(injection hc with hc;subst hc;simp only[Op.stringOp,YR,blt,hq,ne_eq,decide_not];rfl))) (by constructor <;> rintro rfl <;> simp[NP] at hc)) hd h
theorem Tx {T:TypeId}{x:Operand}{a:Bs}(hT:P.underlying T=some .string)(hx:ev e x=some (sv a))(hd:Nat.blt d N=true)
  (h:WL P N ops Q rest ((d,.int .i64 a.length)::e) w):WL P N ops Q (⟨some d,.call ⟨.builtin .len,#[x],#[T]⟩,ty,pos,af,none⟩::rest) e w:=
 O3 (fun A hA=>by simp[execOp,resolve,invoke,builtin,hA.eval hx,Builtin.len_,run_underlying hT,jS,goInt]) hd h
end
end Tw
namespace Tw
open Go Go.RowKit
def TypeDesc.row:TypeDesc->Bool
 | .struct _|.array _ _=>true
 | _=>false
class Ty (P:Program)(T:TypeId)(a:outParam Bool)(k:outParam Nat):Prop where
 out:(P.underlying T).map TypeDesc.row=some a
 sz:(P.info? T).map (·.size)=some k
class TyZ (P:Program)(T:TypeId)(vs:outParam (List Value)):Prop where
 out:(P.info? T).map (fun i=>i.zero.map (·.cells.toList))=some (some (fl vs))
 good:(fl vs).all (·.oneCell')=true
def structOf (P:Program)(S:TypeId):Option (List (TypeId × Nat × Nat)):=
 match P.underlying S with
 | some (.struct fs)=>fs.toList.mapM fun f=>(P.info? f.type).map fun i=>(f.type,f.offset,i.size)
 | _=>none
class TyS (P:Program)(S:TypeId)(l:outParam (List (TypeId × Nat × Nat))):Prop where
 out:structOf P S=some l
class TyA (P:Program)(A:TypeId)(n:outParam Nat)(E:outParam TypeId)(k:outParam Nat):Prop where
 out:P.underlying A=some (.array n E)
 sz:(P.info? E).map (·.size)=some k
class TyI (P:Program)(T:TypeId)(k:outParam IntKind):Prop where
 out:P.underlying T=some (.int k)
class TyT (P:Program)(T:TypeId):Prop where
 out:P.underlying T=some .string
class TyP (P:Program)(T:TypeId)(E:outParam TypeId):Prop where
 out:P.underlying T=some (.pointer E)
class TyL (P:Program)(S:TypeId)(E:outParam TypeId)(k:outParam Nat)(bytes:outParam Nat):Prop where
 out:P.underlying S=some (.slice E)
 sz:(P.info? E).map (fun i=>(i.size,i.bytes))=some (k,bytes)
theorem uJ {vs:List Value}(h:(fl vs).all (·.oneCell')=true):Good vs:=fun v hv=>List.all_eq_true.1 h v hv
def takeC:List Value->Nat->Option (List Value)
 | _,0=>some []
 | [],_+1=>none
 | v::vs,k+1=>bif Nat.ble v.cells.size (k+1) then (match takeC vs (k+1-v.cells.size) with|some r=>some (v::r)|none=>none) else none
def X7:Value->Bool
 | .agg _=>true
 | _=>false
def uG (a:Bool):List Value->Option Value
 | []=>none
 | [v]=>bif a then (bif X7 v then some v else some (st [v])) else (bif X7 v then none else some v)
 | v::u::r=>bif a then some (st (v::u::r)) else none
def BV (a:Bool)(k:Nat):List Value->Nat->Option Value
 | vs,0=>(match takeC vs k with|some r=>uG a r|none=>none)
 | [],_+1=>none
 | v::vs,o+1=>bif Nat.ble v.cells.size (o+1) then (bif Nat.beq v.cells.size 0 then none else BV a k vs (o+1-v.cells.size)) else none
def wD:List Value->Nat->Option (List Value)
 | vs,0=>some vs
 | [],_+1=>none
 | v::vs,k+1=>bif Nat.ble v.cells.size (k+1) then wD vs (k+1-v.cells.size) else none
def yS:List Value->List Value->Option (List Value)
 | [],r=>some r
 | x::xs,r=>(match yS xs r with|some q=>some (x::q)|none=>none)
def lH (k:Nat)(xs:List Value):List Value->Nat->Option (List Value)
 | vs,0=>(match wD vs k with|some r=>yS xs r|none=>none)
 | [],_+1=>none
 | v::vs,o+1=>bif Nat.ble v.cells.size (o+1) then (bif Nat.beq v.cells.size 0 then none else (match lH k xs vs (o+1-v.cells.size) with|some r=>some (v::r)|none=>none)) else none
theorem Pm:∀ {xs r q:List Value},yS xs r=some q->q=xs++r
 | [],r,q,h=>by simpa[yS] using h.symm
 | x::xs,r,q,h=>by
  unfold yS at h;cases hq:yS xs r with
  | none=>simp[hq] at h
  | some p=>
   simp[hq] at h;subst h;rw[Pm hq];rfl
theorem Lh:∀ {vs:List Value} {k:Nat} {r:List Value},wD vs k=some r->∃ pre,vs=pre++r/\(fl pre).length=k
 | vs,0,r,h=>by
  have:r=vs:=by cases vs <;> simpa[wD] using h.symm
  subst this;exact⟨[],rfl,rfl⟩
 | [],k+1,r,h=>by simp[wD] at h
 | v::vs,k+1,r,h=>by
  unfold wD at h;cases hb:Nat.ble v.cells.size (k+1) with
  | false=>simp[hb] at h
  | true=>
   have hle:v.cells.size<=k+1:=nlb hb;simp only[hb,cond_true] at h;obtain⟨pre,h1,h2⟩:=Lh h;refine⟨v::pre,by rw[h1];rfl,?_⟩;rw[lM,lla,h2,Array.length_toList];omega
theorem YY:∀ {vs:List Value} {k:Nat} {r:List Value},takeC vs k=some r->∃ post,vs=r++post/\(fl r).length=k
 | vs,0,r,h=>by
  have:r=[]:=by cases vs <;> simpa[takeC] using h.symm
  subst this;exact⟨vs,rfl,rfl⟩
 | [],k+1,r,h=>by simp[takeC] at h
 | v::vs,k+1,r,h=>by
  unfold takeC at h;cases hb:Nat.ble v.cells.size (k+1) with
  | false=>simp[hb] at h
  | true=>
   have hle:v.cells.size<=k+1:=nlb hb;cases ht:takeC vs (k+1-v.cells.size) with
   | none=>simp[hb,ht] at h
   | some r'=>
    simp[hb,ht] at h;subst h;obtain⟨post,h1,h2⟩:=YY ht;refine⟨post,by rw[h1];rfl,?_⟩;rw[lM,lla,h2,Array.length_toList];omega
theorem a1S {a:Bool}{r:List Value}{v:Value}(h:uG a r=some v)(hg:Good r):v.cells.toList=fl r/\(a=true->v=.agg (fl r).toArray)/\(a=false->fl r=[v]):=by
 match r,h with
 | [u],h=>
  cases a with
  | true=>
   cases hu:X7 u with
   | true=>
    simp[uG,hu] at h;subst h;cases u <;> simp[X7] at hu
    simp[Value.cells]
   | false=>
    simp[uG,hu] at h;subst h;simp[st,Value.cells]
  | false=>
   cases hu:X7 u with
   | true=>simp[uG,hu] at h
   | false=>
    simp[uG,hu] at h;subst h;have:u.cells=#[u]:=by cases u <;> first|rfl|simp[X7] at hu
    simp[this]
 | u::t::r,h=>
  cases a with
  | true=>simp[uG] at h;subst h;simp[st,Value.cells]
  | false=>simp[uG] at h
theorem UL {a:Bool}{k:Nat}:∀ {vs:List Value} {o:Nat} {v:Value},BV a k vs o=some v->Good vs ->
  ∃ x y,fl vs=x++v.cells.toList++y/\x.length=o/\v.cells.size=k/\(a=true->v=.agg v.cells)/\(a=false->v.cells=#[v])
 | vs,0,v,h,hg=>by
  have h':(match takeC vs k with|some r=>uG a r|none=>none)=some v:=by cases vs <;> exact h
  cases ht:takeC vs k with
  | none=>simp[ht] at h'
  | some r=>
   simp[ht] at h';obtain⟨post,h1,h2⟩:=YY ht;obtain⟨e1,e2,e3⟩:=a1S h' (hg.of_sub (by intro x hx;rw[h1];simp[hx]));refine⟨[],fl post,by rw[h1,yD,e1];rfl,rfl,by rw[<- Array.length_toList,e1,h2],fun ha=>?_,fun ha=>?_⟩
   ·rw[e2 ha];rfl
   ·have:=e3 ha;rw[<- e1] at this;exact Array.ext' this
 | [],o+1,v,h,_=>by simp[BV] at h
 | u::vs,o+1,v,h,hg=>by
  unfold BV at h;cases hb:Nat.ble u.cells.size (o+1) with
  | false=>simp[hb] at h
  | true=>
   cases hz:Nat.beq u.cells.size 0 with
   | true=>simp[hb,hz] at h
   | false=>
    simp only[hb,hz,cond_true,cond_false] at h;have hle:u.cells.size<=o+1:=nlb hb;have hpos:u.cells.size≠0:=Nat.ne_of_beq_eq_false hz;obtain⟨x,y,e1,e2,e3⟩:=UL h (hg.of_sub (by intro z hz;simp[hz]));refine⟨u.cells.toList++x,y,by rw[lM,e1];simp,by rw[List.length_append,e2,Array.length_toList];omega,e3⟩
termination_by vs=>vs.length
theorem Dn {k:Nat}{xs:List Value}:∀ {vs:List Value} {o:Nat} {vs':List Value},lH k xs vs o=some vs'->(fl xs).length=k->Good vs->Good xs ->
  ∃ x m y,fl vs=x++m++y/\fl vs'=x++fl xs++y/\x.length=o/\m.length=k/\Good vs'
 | vs,0,vs',h,hk,hg,hx=>by
  have h':(match wD vs k with|some r=>yS xs r|none=>none)=some vs':=by cases vs <;> exact h
  cases ht:wD vs k with
  | none=>simp[ht] at h'
  | some r=>
   simp only[ht] at h';obtain⟨pre,h1,h2⟩:=Lh ht;have h':=Pm h';subst h';exact⟨[],fl pre,fl r,by rw[h1,yD];rfl,sm,rfl,h2,hx.append (hg.of_sub (by intro z hz;rw[h1];simp[hz]))⟩
 | [],o+1,v,h,_,_,_=>by simp[lH] at h
 | u::vs,o+1,vs',h,hk,hg,hx=>by
  unfold lH at h;cases hb:Nat.ble u.cells.size (o+1) with
  | false=>simp[hb] at h
  | true=>
   cases hz:Nat.beq u.cells.size 0 with
   | true=>simp[hb,hz] at h
   | false=>
    simp only[hb,hz,cond_true,cond_false] at h;have hle:u.cells.size<=o+1:=nlb hb;have hpos:u.cells.size≠0:=Nat.ne_of_beq_eq_false hz;cases hp:lH k xs vs (o+1-u.cells.size) with
    | none=>simp[hp] at h
    | some r=>
     simp[hp] at h;subst h;obtain⟨x,m,y,e1,e2,e3,e4,e5⟩:=Dn hp hk (hg.of_sub (by intro z hz;simp[hz])) hx;exact⟨u.cells.toList++x,m,y,by rw[lM,e1];simp,by rw[lM,e2];simp,by rw[List.length_append,e3,Array.length_toList];omega,e4,Good.cons (hg.one sm) e5⟩
termination_by vs=>vs.length
inductive Upd:List Piece->Piece->Piece->List Piece->Prop
 | here {p p':Piece} {m:List Piece}:Upd (p::m) p p' (p'::m)
 | there {q p p':Piece} {m m':List Piece}:Upd m p p' m'->Upd (q::m) p p' (q::m')
theorem Upd.parts {m m':List Piece}{p p':Piece}(h:Upd m p p' m'):∃ pre post,m=pre++p::post/\m'=pre++p'::post:=by
 induction h with
 | here=>exact⟨[],_,rfl,rfl⟩
 | there _ ih=>
  obtain⟨pre,post,h1,h2⟩:=ih;exact⟨_::pre,post,by rw[h1];rfl,by rw[h2];rfl⟩
inductive Has:List Piece->Piece->Prop
 | here {p:Piece} {m:List Piece}:Has (p::m) p
 | there {q p:Piece} {m:List Piece}:Has m p->Has (q::m) p
theorem Has.mem {m:List Piece}{p:Piece}(h:Has m p):p∈m:=by
 induction h with
 | here=>simp
 | there _ ih=>simp[ih]
section
variable {P:Program} {N:Nat} {ops:Array Oper} {Q:Exit->Act->World->Prop} {rest:List Oper} {e:Env} {w w':World} {d:Nat} {ty:TypeId} {pos:String} {af:Array Edge}
 {s:Base} {ok:Nat->Prop} {m:List Piece}
theorem EO {T:TypeId}{a:Bool}{k:Nat}(t:Ty P T a k):(isAgg T).run P w=.ok a w:=by
 obtain⟨h,_⟩:=t;cases hu:P.underlying T with
 | none=>simp[hu] at h
 | some dd=>
  simp[hu] at h;unfold isAgg;rw[Sem.run_bind,run_underlying hu w];cases dd <;> simp[TypeDesc.row] at h <;> subst h <;> rfl
theorem run_sizeOf {T:TypeId}{k:Nat}(h:(P.info? T).map (·.size)=some k):(Go.sizeOf T).run P w=.ok k w:=by
 cases hq:P.info? T with
 | none=>simp[hq] at h
 | some i=>
  simp[hq] at h;simp[Go.sizeOf,typeInfo,hq,h]
theorem zT {T:TypeId}{a:Bool}{k:Nat}(t:Ty P T a k){b o:Nat}{v:Value}(hr:Rg w b o v.cells.toList)(hk:v.cells.size=k)(h1:a=true->v=.agg v.cells)(h2:a=false->v.cells=#[v]) :
  (loadVar T ⟨b,o,none⟩).run P w=.ok v w:=by
 unfold loadVar;rw[Sem.run_bind,EO t];cases a with
 | true=>
  have hl:=Ao (P:=P) hr;rw[Array.length_toList,hk] at hl;simp[run_sizeOf t.sz,hl];exact(h1 rfl).symm
 | false=>
  have hc:w.cell? ⟨b,o,none⟩=some v:=by
   have:=hr.cell (j:=0) (v:=v) (by rw[h2 rfl];rfl);simpa using this
  simp[load,Sem.run,hc]
theorem DR {T:TypeId}{x:Operand}{b o:Nat}{v:Value}(hx:ev e x=some (.pointer (some ⟨b,o,none⟩)))(hrun:(loadVar T ⟨b,o,none⟩).run P w=.ok v w)(hd:Nat.blt d N=true)
  (h:WL P N ops Q rest ((d,v)::e) w):WL P N ops Q (⟨some d,.load T x,ty,pos,af,none⟩::rest) e w:=
 O3 (fun A hA=>by simp[execOp,hA.eval hx,Instr.loadAt,Instr.sureAddr,hrun]) hd h
theorem Tu {T:TypeId}{a:Bool}{k:Nat}[t:Ty P T a k]{x:Operand}{g o:Nat}{T0:TypeId}{vs:List Value}{v:Value}(hS:St s ok m w)(hx:ev e x=some (.pointer (some ⟨g,o,none⟩)))(hm:Has m (.var g T0 vs))
  (hv:BV a k vs o=some v) (hd:Nat.blt d N=true) (h:WL P N ops Q rest ((d,v)::e) w):WL P N ops Q (⟨some d,.load T x,ty,pos,af,none⟩::rest) e w:=by
 obtain⟨hb,hg⟩:=hS.at_ _ hm.mem;obtain⟨x',y,e1,e2,e3,e4,e5⟩:=UL hv hg;have hr:=Rg.of_block hb;rw[e1] at hr;have hr':=hr.mid;rw[e2,Nat.zero_add] at hr';exact DR hx (zT t hr' e3 e4 e5) hd h
theorem PT {T:TypeId}{a:Bool}{k:Nat}[t:Ty P T a k]{x:Operand}{b o:Nat}{v:Value}(hx:ev e x=some (.pointer (some ⟨b,o,none⟩)))(hr:Rg w b o v.cells.toList)(hk:v.cells.size=k)
  (hv:X7 v=a) (hd:Nat.blt d N=true) (h:WL P N ops Q rest ((d,v)::e) w):WL P N ops Q (⟨some d,.load T x,ty,pos,af,none⟩::rest) e w:=
 DR hx (zT t hr hk (fun ha=>by subst ha;cases v <;> simp[X7] at hv;rfl) (fun ha=>by subst ha;cases v <;> first|rfl|simp[X7] at hv)) hd h
theorem zS {T:TypeId}{k:Nat}(hz:(P.info? T).map (·.size)=some k){g o:Nat}{T0:TypeId}{C:Array Value}{v:Value}(hb:w.heap[g]?=some (.cells C T0 (0,0)))(hk:v.cells.size=k)(ho:o+k<=C.size)(h1:One v.cells.toList) :
  (storeVar T ⟨g,o,none⟩ v).run P w=.ok () (w.setRow g (C.toList.take o++v.cells.toList++C.toList.drop (o+k)).toArray):=by
 have:=run_storeCells_at (P:=P) g o T0 v.cells.toList 0 C w hb (by simpa[hk] using ho) h1;simp only[Nat.add_zero,Array.length_toList,hk] at this;unfold storeVar;rw[Sem.run_bind,run_sizeOf hz];simp[hk,this]
theorem XN {T:TypeId}{a:Bool}{k:Nat}[t:Ty P T a k]{x y:Operand}{g o:Nat}{T0:TypeId}{vs vs' xs:List Value}{u:Value}{m':List Piece}(hS:St s ok m w)(hx:ev e x=some (.pointer (some ⟨g,o,none⟩)))
  (hy:ev e y=some u) (hxs:u.cells.toList=fl xs) (hgx:Good xs) (hk:u.cells.size=k) (hu:Upd m (.var g T0 vs) (.var g T0 vs') m') (hp:lH k xs vs o=some vs')
  (h:∀ w',St s ok m' w'->Stp ok w ok w'->WL P N ops Q rest e w'):WL P N ops Q (⟨none,.store T x y,ty,pos,af,none⟩::rest) e w:=by
 obtain⟨pre,post,rfl,rfl⟩:=hu.parts;obtain⟨hb,hg⟩:=hS.at_ (.var g T0 vs) sm;have hkx:(fl xs).length=k:=by rw[<- hxs,Array.length_toList,hk]
 obtain⟨p,q,r,e1,e2,e3,e4,e5⟩:=Dn hp hkx hg hgx;have hrun:=zS (P:=P) t.sz (v:=u) (o:=o) hb hk (by simp[e1,e3,e4]) (by rw[hxs];exact hgx);have hC:((fl vs).toArray.toList.take o++u.cells.toList++(fl vs).toArray.toList.drop (o+k))=fl vs':=by
  simp only[e1,e2,hxs];have h1:(p++q++r).take o=p:=by rw[<- e3,laa,List.take_left]
  have h2:(p++q++r).drop (o+k)=r:=by rw[<- e3,<- e4,<- lla,List.drop_left]
  rw[h1,h2]
 rw[hC] at hrun;obtain⟨hS',hE⟩:=hS.write (p:=.var g T0 vs) (p':=.var g T0 vs') (w':=w.setRow g (fl vs').toArray) ⟨setRow_heap w g _ _ T0 (0,0) hb,e5⟩ rfl rfl sm rfl rfl rfl (fun b hne=>setRow_other w g b _ hne);exact PS (fun A hA=>by simp[execOp,hA.eval hx,hA.eval hy,Instr.storeAt,Instr.sureAddr,hrun]) (h _ hS' hE)
theorem Tk {x:Operand}{p:Addr}(hx:ev e x=some (.pointer (some p)))(hd:Nat.blt d N=true)(h:WL P N ops Q rest ((d,.pointer (some p))::e) w):WL P N ops Q (⟨some d,.nilCheck x,ty,pos,af,none⟩::rest) e w:=
 O3 (fun A hA=>by simp[execOp,hA.eval hx]) hd h
theorem Fs {α β:Type}{f:α->Option β}:∀ {as:List α} {l:List β},as.mapM f=some l->as.length=l.length/\∀ (j:Nat) (b:β),l[j]?=some b->∃ a,as[j]?=some a/\f a=some b
 | [],l,h=>by simp at h;subst h;simp
 | a::as,l,h=>by
  simp only[List.mapM_cons] at h;cases hf:f a with
  | none=>simp[hf] at h
  | some y=>
   cases hr:as.mapM f with
   | none=>simp[hf,hr] at h
   | some r=>
    simp[hf,hr] at h;subst h;obtain⟨h1,h2⟩:=Fs hr;refine⟨by simp[h1],fun j b hj=>?_⟩;cases j with
    | zero=>
     simp at hj;exact⟨a,rfl,by rw[hf,hj]⟩
    | succ j=>exact h2 j b (by simpa using hj)
theorem zN {S:TypeId}{l:List (TypeId × Nat × Nat)}(h:structOf P S=some l) :
  ∃ fs:Array Field,P.underlying S=some (.struct fs)/\fs.size=l.length/\∀ (i:Nat) (T off z:Nat),l[i]?=some (T,off,z)->∃ f,fs[i]?=some f/\f.type=T/\f.offset=off/\(P.info? T).map (·.size)=some z:=by
 unfold structOf at h;split at h
 ·rename_i fs hu;obtain⟨h1,h2⟩:=Fs h;refine⟨fs,hu,by simpa using h1,fun i T off z hi=>?_⟩;obtain⟨f,hf1,hf2⟩:=h2 i _ hi;cases hq:P.info? f.type with
  | none=>simp[hq] at hf2
  | some inf=>
   simp[hq] at hf2;obtain⟨e1,e2,e3⟩:=hf2;refine⟨f,by rw[<- Array.getElem?_toList];exact hf1,e1,e2,?_⟩;rw[<- e1,hq,<- e3];rfl
 ·simp at h
theorem Uf {S:TypeId}{l:List (TypeId × Nat × Nat)}[t:TyS P S l]{x:Operand}{i:Nat}{b o T off z:Nat}(hx:ev e x=some (.pointer (some ⟨b,o,none⟩)))(hi:l[i]?=some (T,off,z))(hz:Nat.beq z 0=false)(hd:Nat.blt d N=true)
  (h:WL P N ops Q rest ((d,.pointer (some ⟨b,o+off,none⟩))::e) w):WL P N ops Q (⟨some d,.fieldAddr S x i,ty,pos,af,none⟩::rest) e w:=by
 obtain⟨fs,hu,_,hfs⟩:=zN t.out;obtain⟨f,hfi,hft,hfo,hfz⟩:=hfs i T off z hi;have hzne:z≠0:=Nat.ne_of_beq_eq_false hz;subst hft;subst hfo;exact O3 (fun A hA=>by simp[execOp,hA.eval hx,Instr.fieldAt,run_underlying hu,hfi,Instr.sureAddr,fieldPlace,run_sizeOf hfz,hzne,add_mid]) hd h
end
end Tw
namespace Tw
open Go Go.RowKit
section
variable {P:Program} {N:Nat} {ops:Array Oper} {Q:Exit->Act->World->Prop} {rest:List Oper} {e:Env} {w w':World} {d:Nat} {ty:TypeId} {pos:String} {af:Array Edge}
 {s:Base} {ok:Nat->Prop} {m:List Piece}
theorem YB {T:TypeId}{vs:List Value}[t:TyZ P T vs](hS:St s ok m w)(hd:Nat.blt d N=true)
  (h:∀ g ok' w',St s ok' (.var g T vs::m) w'->Ex ok w ok' w'->w.heap.size<=g->WL P N ops Q rest ((d,.pointer (some ⟨g,0,none⟩))::e) w'):WL P N ops Q (⟨some d,.alloc T,ty,pos,af,none⟩::rest) e w:=by
 have ht:=t.out;cases hq:P.info? T with
 | none=>simp[hq] at ht
 | some i=>
  cases hz:i.zero with
  | none=>simp[hq,hz] at ht
  | some z=>
   simp[hq,hz] at ht;obtain⟨h1,h2⟩:=hS.newVar T vs (uJ t.good);have hc:z.cells=(fl vs).toArray:=by rw[<- ht]
   exact O3 (w':=w.alloc (.cells (fl vs).toArray T)) (fun A hA=>by simp[execOp,Instr.alloc,zeroValue,typeInfo,hq,hz,newVar,newRow,newObj,Sem.run,hc]) hd (h _ _ _ h1 h2 (Nat.le_refl _))
theorem XW {T:TypeId}{x:Operand}{u:Value}{xs:List Value}(hS:St s ok m w)(hx:ev e x=some u)(hxs:u.cells.toList=fl xs)(hg:Good xs)(hd:Nat.blt d N=true)
  (h:∀ g ok' w',St s ok' (.var g T xs::m) w'->Ex ok w ok' w'->w.heap.size<=g->WL P N ops Q rest ((d,.pointer (some ⟨g,0,none⟩))::e) w'):WL P N ops Q (⟨some d,.box T x,ty,pos,af,none⟩::rest) e w:=by
 obtain⟨h1,h2⟩:=hS.newVar T xs hg;have hc:u.cells=(fl xs).toArray:=by rw[<- hxs]
 exact O3 (w':=w.alloc (.cells (fl xs).toArray T)) (fun A hA=>by simp[execOp,hA.eval hx,Instr.box,newVar,newRow,newObj,Sem.run,hc]) hd (h _ _ _ h1 h2 (Nat.le_refl _))
def fits:Nat->List (TypeId × Nat × Nat)->List Value->Bool
 | _,[],[]=>true
 | o,f::l,z::zs=>Nat.beq f.2.1 o&&Nat.beq f.2.2 z.cells.size&&fits (o+z.cells.size) l zs
 | _,_,_=>false
class FnB (P:Program)(f:FuncId):Prop where
 out : (P.funcs[f]?).map (fun fn => fn.body.isSome && !(fn.name == "runtime.NumGoroutine")) = some true
theorem FnB.run {f:FuncId}(h:FnB P f)(args:Array Value)(w:World):(callFunc f args).run P w=.ok (.enter f args) w:=by
 have h:=h.out;cases hf:P.funcs[f]? with
 | none=>simp[hf] at h
 | some fn=>
  simp[hf] at h;have hb:fn.body≠none:=by intro h0;simp[h0] at h
  simp[callFunc,program,Sem.run,hf,hb,h.2]
def Ret (P:Program)(f:FuncId)(args:List Value)(w:World)(R:Value->World->Prop):Prop:=Calls P f args.toArray w fun x w'=>∃ v,x=.returned v/\R v w'
theorem Ret.mono {f:FuncId}{args:List Value}{R R':Value->World->Prop}(h:Ret P f args w R)(hr:∀ v w',R v w'->R' v w'):Ret P f args w R':=
 Calls.mono h fun _ w' ⟨v,e,r⟩=>⟨v,e,hr v w' r⟩
theorem zF {f:FuncId}[hf:FnB P f]{xs:List Operand}{ts:Array TypeId}{vs:List Value}{R:Value->World->Prop}(hx:L8 e xs=some vs)
  (hc:Ret P f vs w R) (hd:Nat.blt d N=true)
  (h:∀ v w',R v w'->WL P N ops Q rest ((d,v)::e) w'):WL P N ops Q (⟨some d,.call ⟨.value (.func f),xs.toArray,ts⟩,ty,pos,af,none⟩::rest) e w:=fun a ha=>
 wpList_plain rfl fun K hK=>by
  have hrun:(execOp a.eval ⟨some d,.call ⟨.value (.func f),xs.toArray,ts⟩,ty,pos,af,none⟩).run P w=.ok (.enter f vs.toArray) w:=by
   have hev:a.eval (.func f)=.func (.func f) #[] #[]:=rfl;simp[execOp,resolve,ha.evals hx,hev,Deferred.ofValue,invoke,hf.run]
  unfold Oper.wp;rw[hrun];exact Calls.mono hc fun x w' hxx=>by
   obtain⟨v,rfl,hR⟩:=hxx;exact hK _ _ (h v w' hR _ (ha.put hd))
def nI:Nat->List Value->Env
 | _,[]=>[]
 | i,v::vs=>(i,v)::nI (i+1) vs
theorem yR:∀ (vs:List Value) (i t:Nat) (v:Value),lk (nI i vs) t=some v->i<=t/\vs[t-i]?=some v
 | [],i,t,v,h=>by simp[nI,lk] at h
 | u::vs,i,t,v,h=>by
  unfold nI lk at h;by_cases hi:i=t
  ·subst hi;simp at h;simp[h]
  ·simp[bE hi] at h;obtain⟨h1,h2⟩:=yR vs (i+1) t v h;refine⟨om,?_⟩;rw[show t-i=(t-(i+1))+1 by omega];simpa using h2
theorem oZ {f:FuncId}{fn:Func}{c:Code}{args:List Value}{R:Value->World->Prop}(hf:P.funcs[f]?=some fn)(hb:fn.body=some c)(hN:fn.ntmps=N)(hl':Nat.ble args.length N=true)
  (h:WC P N c (bodyPost P fn fun x w'=>∃ v,x=.returned v/\R v w') (nI 0 args) w):Ret P f args w R:=by
 have hl:args.length<=N:=nlb hl';refine calls_of_wp hf hb (h _ ⟨?_,rfl,?_⟩)
 ·simp[hN];omega
 ·intro t v ht;obtain⟨_,h2⟩:=yR args 0 t v ht;have hlt:t<args.length:=by simpa using (List.getElem?_eq_some_iff.1 h2).1
  simp only[Nat.sub_zero] at h2;have h3:args[t]=v:=(List.getElem?_eq_some_iff.1 h2).2;simp[Array.getElem?_append,hlt,h3]
def Res (P:Program)(N:Nat)(e:Env)(w:World)(r:ResultVar)(v:Value):Prop:=∀ a,Sat N e a->(match r with
 | .tmp t=>a.tmps.getD t undef=v
 | .cell x t=>∃ p,a.tmps.getD x undef=.pointer (some p)/\(loadVar t p).run P w=.ok v w)
theorem kY {t:Nat}{v:Value}(h:lk e t=some v):Res P N e w (.tmp t) v:=fun _ ha=>ha.env t v h
theorem vL {x:Nat}{T:TypeId}{a:Bool}{k:Nat}[t:Ty P T a k]{g:Nat}{T0:TypeId}{vs:List Value}{v:Value}(hS:St s ok m w)(hx:lk e x=some (.pointer (some ⟨g,0,none⟩)))(hm:Has m (.var g T0 vs))
  (hv:BV a k vs 0=some v):Res P N e w (.cell x T) v:=fun A hA=>by
 obtain⟨hb,hg⟩:=hS.at_ _ hm.mem;obtain⟨x',y,e1,e2,e3,e4,e5⟩:=UL hv hg;have hr:=Rg.of_block hb;rw[e1] at hr;have hr':=hr.mid;rw[e2,Nat.zero_add] at hr';exact⟨_,hA.env x _ hx,zT t hr' e3 e4 e5⟩
section
variable {fn:Func} {R:Value->World->Prop}
theorem rT {r:ResultVar}{v:Value}(hr:fn.results=#[r])(h1:Res P N e w r v)(h:R v w):WE N .ret (bodyPost P fn fun x w'=>∃ v,x=.returned v/\R v w') e w:=fun a ha=>by
 refine⟨ha.defers,v,?_,_,rfl,h⟩;have h1:=h1 a ha;cases r with
 | tmp t=>simp at h1;simp[results,hr,h1]
 | cell x t=>simp at h1;obtain⟨p,hp,hl⟩:=h1;simp[results,hr,hp,hl,asAddr]
theorem YC (hr:fn.results=#[])(h:R (.tuple #[]) w):WE N .normal (bodyPost P fn fun x w'=>∃ v,x=.returned v/\R v w') e w:=fun a ha=>
 ⟨ha.defers,.tuple #[],by simp[results,hr],_,rfl,h⟩
end
end
end Tw
namespace Tw
open Go Go.RowKit
theorem foldl_set (off:Nat):∀ (v:List Value) (n:Nat) (cells:Array Value),off+n+v.length<=cells.size ->
  (v.zipIdx n).foldl (fun (cs:Array Value) (x:Value × Nat)=>cs.setIfInBounds (off+x.2) x.1) cells=(cells.toList.take (off+n)++v++cells.toList.drop (off+n+v.length)).toArray
 | [],n,cells,_=>by simp
 | c::v,n,cells,h=>by
  simp only[List.length_cons] at h;simp only[List.zipIdx_cons,List.foldl_cons];rw[foldl_set off v (n+1) _ (by simp;omega)];apply Array.ext';simp only[Array.toList_setIfInBounds,List.length_cons];have hlt:off+n<cells.toList.length:=by simp;omega
  rw[List.drop_set_of_lt om,show off+(n+1)=(off+n)+1 by omega,List.take_succ_eq_append_getElem (by simpa using hlt),List.take_set_of_le (Nat.le_refl _)];simp;omega
def jT:List Value->Nat->Value->Option (List Value)
 | [],_,_=>none
 | z::zs,0,v=>bif Nat.beq z.cells.size v.cells.size then some (v::zs) else none
 | z::zs,i+1,v=>(match jT zs i v with|some r=>some (z::r)|none=>none)
theorem ZR:∀ {zs:List Value} {i:Nat} {v:Value} {r:List Value},jT zs i v=some r->∃ z,zs[i]?=some z/\z.cells.size=v.cells.size/\r=zs.set i v
 | [],_,_,_,h=>by simp[jT] at h
 | z::zs,0,v,r,h=>by
  cases hb:Nat.beq z.cells.size v.cells.size with
  | false=>simp[jT,hb] at h
  | true=>
   simp[jT,hb] at h;subst h;exact⟨z,rfl,Nat.eq_of_beq_eq_true hb,rfl⟩
 | z::zs,i+1,v,r,h=>by
  unfold jT at h;cases hq:jT zs i v with
  | none=>simp[hq] at h
  | some p=>
   simp[hq] at h;subst h;obtain⟨y,h1,h2,h3⟩:=ZR hq;exact⟨y,by simpa using h1,h2,by rw[h3];rfl⟩
def mK (zs:List Value):List Nat->List Value->Option (List Value)
 | [],[]=>some zs
 | i::is,v::vs=>(match jT zs i v with
  | some zs'=>mK zs' is vs
  | none=>none)
 | _,_=>none
theorem a4Q {zs:List Value}{i:Nat}(hi:i<zs.length)(v:Value):fl (zs.set i v)=fl (zs.take i)++v.cells.toList++fl (zs.drop (i+1)):=by
 rw[List.set_eq_take_append_cons_drop,if_pos hi,yD,lM,laa]
theorem uM {place:Nat->Option (Nat × Nat)}:∀ {is:List Nat} {vs zs rs:List Value},(∀ i z,zs[i]?=some z->place i=some ((fl (zs.take i)).length,z.cells.size))->mK zs is vs=some rs->Instr.fill place (fl zs).toArray (is.zip vs)=some (fl rs).toArray/\rs.length=zs.length
 | [],[],zs,rs,_,h=>by simp[mK] at h;subst h;simp[Instr.fill]
 | [],v::vs,zs,rs,_,h=>by simp[mK] at h
 | i::is,[],zs,rs,_,h=>by simp[mK] at h
 | i::is,v::vs,zs,rs,hp,h=>by
  unfold mK at h;cases hq:jT zs i v with
  | none=>simp[hq] at h
  | some zs'=>
    simp only[hq] at h;obtain⟨z,hz,hsz,rfl⟩:=ZR hq;obtain⟨hi,hzi⟩:=List.getElem?_eq_some_iff.1 hz;have hsplit:fl zs=fl (zs.take i)++z.cells.toList++fl (zs.drop (i+1)):=by rw[Ke hi,hzi]
    have ih:=uM (place:=place) (is:=is) (vs:=vs) (zs:=zs.set i v) (rs:=rs) (by
     intro j u hj;by_cases hji:j=i
     ·subst hji;rw[List.getElem?_set_self hi] at hj;injection hj with hj
      subst hj;rw[hp j z hz,List.take_set_of_le (Nat.le_refl _),hsz]
     ·rw[List.getElem?_set_ne (fun e=>hji e.symm)] at hj;rw[hp j u hj];congr 2
      rcases Nat.lt_or_ge i j with h1|h1
      ·have hjl:j<=zs.length:=Nat.le_of_lt (List.getElem?_eq_some_iff.1 hj).1;have e1:zs.take j=(zs.take i)++z::((zs.take j).drop (i+1)):=by
        conv=>lhs;rw[<- List.take_append_drop i (zs.take j)]
        rw[List.take_take,Nat.min_eq_left om,List.drop_eq_getElem_cons (by simp;omega)];simp[hzi]
       have e2:(zs.set i v).take j=(zs.take i)++v::((zs.take j).drop (i+1)):=by
        rw[List.take_set,List.set_eq_take_append_cons_drop,if_pos (by simp;omega),List.take_take,Nat.min_eq_left om]
       rw[e1,e2];simp[hsz]
      ·rw[List.take_set_of_le h1]) h
    simp only[List.zip_cons_cons,Instr.fill];rw[hp i z hz];simp only[hsz,ne_eq,not_true,decide_false,Bool.false_or];have hfit:(fl (zs.take i)).length+v.cells.size<=(fl zs).length:=by rw[hsplit];simp[hsz]
    rw[if_neg (by simp;omega)];have hfold:v.cells.zipIdx.foldl (fun (cs:Array Value) (x:Value × Nat)=>cs.setIfInBounds ((fl (zs.take i)).length+x.2) x.1) (fl zs).toArray=(fl (zs.set i v)).toArray:=by
     rw[<- Array.foldl_toList,Array.toList_zipIdx];rw[foldl_set _ _ 0 _ (by simpa using hfit)];simp only[Nat.add_zero];congr 1
     rw[a4Q hi,hsplit];have e1:(fl (zs.take i)++z.cells.toList++fl (zs.drop (i+1))).take (fl (zs.take i)).length=fl (zs.take i):=by rw[laa,List.take_left]
     have e2:(fl (zs.take i)++z.cells.toList++fl (zs.drop (i+1))).drop ((fl (zs.take i)).length+v.cells.toList.length)=fl (zs.drop (i+1)):=by
      rw[show (fl (zs.take i)).length+v.cells.toList.length=(fl (zs.take i)++z.cells.toList).length by simp[hsz],List.drop_left]
     rw[e1,e2]
    rw[hfold];exact⟨ih.1,by rw[ih.2];simp⟩
section
variable {P:Program} {N:Nat} {ops:Array Oper} {Q:Exit->Act->World->Prop} {rest:List Oper} {e:Env} {w w':World} {d:Nat} {ty:TypeId} {pos:String} {af:Array Edge}
 {s:Base} {ok:Nat->Prop} {m:List Piece}
theorem Kg:∀ {o:Nat} {l:List (TypeId × Nat × Nat)} {zs:List Value},fits o l zs=true->l.length=zs.length/\∀ (i:Nat) (z:Value),zs[i]?=some z->∃ T,l[i]?=some (T,o+(fl (zs.take i)).length,z.cells.size)
 | o,[],[],_=>by simp
 | o,[],z::zs,h=>by simp[fits] at h
 | o,f::l,[],h=>by simp[fits] at h
 | o,(T,off,sz)::l,z::zs,h=>by
  simp only[fits,Bool.and_eq_true] at h;obtain⟨⟨h1,h2⟩,h3⟩:=h;have h1:=Nat.eq_of_beq_eq_true h1;have h2:=Nat.eq_of_beq_eq_true h2;subst h1 h2;obtain⟨h4,h5⟩:=Kg h3;refine⟨by simp[h4],fun i u hi=>?_⟩;cases i with
  | zero=>
   simp at hi;subst hi;exact⟨T,sm⟩
  | succ i=>
   obtain⟨T',hT⟩:=h5 i u (by simpa using hi);exact⟨T',by simpa[Nat.add_assoc] using hT⟩
theorem Al {α β:Type}{f:α->Sem β}{g:α->β}:∀ (l:List α),(∀ x∈l,(f x).run P w=.ok (g x) w)->(l.mapM f).run P w=.ok (l.map g) w
 | [],_=>by simp
 | x::l,h=>by
  have h1:=h x sm;have h2:=Al l (fun y hy=>h y (by simp[hy]));simp[List.mapM_cons,h1,h2]
theorem Am {α β:Type}{f:α->Sem β}{g:α->β}(l:Array α)(h:∀ x∈l,(f x).run P w=.ok (g x) w):(l.mapM f).run P w=.ok (l.map g) w:=by
 have:=Al (P:=P) (w:=w) (f:=f) (g:=g) l.toList (fun x hx=>h x (by simpa using hx));rw[Array.mapM_eq_mapM_toList];simp[this];apply Array.ext';simp
theorem QP {T:TypeId}{vs:List Value}(t:TyZ P T vs):∃ z,(zeroValue T).run P w=.ok z w/\z.cells=(fl vs).toArray:=by
 have ht:=t.out;cases hq:P.info? T with
 | none=>simp[hq] at ht
 | some i=>
  cases hz:i.zero with
  | none=>simp[hq,hz] at ht
  | some z=>
   simp[hq,hz] at ht;exact⟨z,by simp[zeroValue,typeInfo,hq,hz],by rw[<- ht]⟩
theorem XV {S:TypeId}{l:List (TypeId × Nat × Nat)}[t:TyS P S l]{zs:List Value}[tz:TyZ P S zs]{parts:List (Nat × Operand)}{vals rs:List Value}(hx:L8 e (parts.map (·.2))=some vals)(hf:fits 0 l zs=true)
  (hr:mK zs (parts.map (·.1)) vals=some rs) (hd:Nat.blt d N=true) (h:WL P N ops Q rest ((d,st rs)::e) w):WL P N ops Q (⟨some d,.build S parts.toArray,ty,pos,af,none⟩::rest) e w:=by
 obtain⟨fs,hu,hlen,hfs⟩:=zN t.out;obtain⟨z,hz,hzc⟩:=QP (P:=P) (w:=w) tz;obtain⟨hl2,hp2⟩:=Kg hf;have hplaces:(fs.mapM fun (f:Field)=>do pure (f.offset,<- Go.sizeOf f.type)).run P w=.ok (fs.map fun (f:Field)=>(f.offset,((P.info? f.type).map (·.size)).getD 0)) w:=by
  refine Am fs fun f hf=>?_;obtain⟨i,hi,hie⟩:=Array.mem_iff_getElem.1 hf;have hil:i<l.length:=by omega
  obtain⟨f',hf1,hf2,hf3,hf4⟩:=hfs i l[i].1 l[i].2.1 l[i].2.2 (by simp[hil]);rw[Array.getElem?_eq_getElem hi,hie] at hf1;injection hf1 with hf1
  subst hf1;rw[<- hf2] at hf4;simp[run_sizeOf hf4,hf4]
 refine O3 (fun A hA=>?_) hd h;have hmap:(parts.toArray.map fun (p:Nat × Operand)=>(p.1,A.eval p.2)).toList=(parts.map (·.1)).zip vals:=by
  rw[<- hA.evals hx];simp[List.zip_map',List.map_map]
 have hfill:=(uM (place:=fun i=>(fs.map fun (f:Field)=>(f.offset,((P.info? f.type).map (·.size)).getD 0))[i]?) (by
  intro i u hi;obtain⟨T,hT⟩:=hp2 i u hi;obtain⟨f',hf1,hf2,hf3,hf4⟩:=hfs i _ _ _ hT;rw[Array.getElem?_map,hf1];simp[hf2,hf3,hf4]) hr).1
 have hmap':(Array.map (fun (x:Nat × Operand)=>(x.fst,A.eval x.snd)) parts.toArray).toList=(parts.map (·.1)).zip vals:=hmap;simp only[execOp,Instr.build,Sem.run_bind,hz,Result.andThen_ok,run_underlying hu,hplaces,hzc];rw[hmap',hfill];rfl
end
end Tw
namespace Tw
open Go Go.RowKit
section
variable {P:Program} {N:Nat} {ops:Array Oper} {Q:Exit->Act->World->Prop} {rest:List Oper} {e:Env} {w w':World} {d:Nat} {ty:TypeId} {pos:String} {af:Array Edge}
 {s:Base} {ok:Nat->Prop} {m:List Piece}
theorem Sz {T:TypeId}{a:Bool}{k:Nat}[t:Ty P T a k]{x y:Operand}{g o:Nat}{T0:TypeId}{vs vs' xs:List Value}{m':List Piece}(hS:St s ok m w)(hx:ev e x=some (.pointer (some ⟨g,o,none⟩)))
  (hy:ev e y=some (st xs)) (hu:Upd m (.var g T0 vs) (.var g T0 vs') m') (hp:lH k xs vs o=some vs') (hg:(fl xs).all (·.oneCell')=true) (hk:Nat.beq (fl xs).length k=true)
  (h:∀ w',St s ok m' w'->Stp ok w ok w'->WL P N ops Q rest e w'):WL P N ops Q (⟨none,.store T x y,ty,pos,af,none⟩::rest) e w:=
 XN hS hx hy sm (uJ hg) (by simpa using Nat.eq_of_beq_eq_true hk) hu hp h
theorem Sw {T:TypeId}{a:Bool}{k:Nat}[t:Ty P T a k]{x y:Operand}{g o:Nat}{T0:TypeId}{vs vs':List Value}{u:Value}{m':List Piece}(hS:St s ok m w)(hx:ev e x=some (.pointer (some ⟨g,o,none⟩)))
  (hy:ev e y=some u) (hu:Upd m (.var g T0 vs) (.var g T0 vs') m') (hp:lH k [u] vs o=some vs') (hg:(fl [u]).all (·.oneCell')=true) (hk:Nat.beq u.cells.size k=true)
  (h:∀ w',St s ok m' w'->Stp ok w ok w'->WL P N ops Q rest e w'):WL P N ops Q (⟨none,.store T x y,ty,pos,af,none⟩::rest) e w:=
 XN hS hx hy sm (uJ hg) (Nat.eq_of_beq_eq_true hk) hu hp h
theorem Uo {T:TypeId}{x:Operand}{u:Value}(hS:St s ok m w)(hx:ev e x=some u)(hg:(fl [u]).all (·.oneCell')=true)(hd:Nat.blt d N=true)
  (h:∀ g ok' w',St s ok' (.var g T [u]::m) w'->Ex ok w ok' w'->w.heap.size<=g->WL P N ops Q rest ((d,.pointer (some ⟨g,0,none⟩))::e) w'):WL P N ops Q (⟨some d,.box T x,ty,pos,af,none⟩::rest) e w:=
 XW hS hx sm (uJ hg) hd h
theorem iU {f:FuncId}[hf:FnB P f]{xs:List Operand}{ts:Array TypeId}{vs:List Value}{R:Value->World->Prop}(hS:St s ok m w)(hx:L8 e xs=some vs)
  (hc:Ret P f vs w fun v w'=>R v w'/\Ext w w') (hd:Nat.blt d N=true)
  (h:∀ v w',R v w'->St s ok m w'->Ex ok w ok w'->WL P N ops Q rest ((d,v)::e) w'):WL P N ops Q (⟨some d,.call ⟨.value (.func f),xs.toArray,ts⟩,ty,pos,af,none⟩::rest) e w:=
 zF hx hc hd fun v w' ⟨hR,hE⟩=>h v w' hR (hS.ext hE) (Ex.of_ext hE ok)
theorem JE {S D:TypeId}{a:Bool}{kz:Nat}[Ty P S a kz]{k k':IntKind}[t:TyI P D k']{x:Operand}{n:Int}(hx:ev e x=some (.int k n))(hd:Nat.blt d N=true)
  (h:WL P N ops Q rest ((d,.int k' (k'.wrap n))::e) w):WL P N ops Q (⟨some d,.convert S D x,ty,pos,af,none⟩::rest) e w:=by
 rename_i tt;have:=tt.out;cases hu:P.underlying S with
 | none=>simp[hu] at this
 | some dS=>exact Uh hu t.out hx hd h
theorem Tv {T:TypeId}[t:TyT P T]{x:Operand}{a:Bs}(hx:ev e x=some (sv a))(hd:Nat.blt d N=true)
  (h:WL P N ops Q rest ((d,.int .i64 a.length)::e) w):WL P N ops Q (⟨some d,.call ⟨.builtin .len,#[x],#[T]⟩,ty,pos,af,none⟩::rest) e w:=Tx t.out hx hd h
theorem Ag {zs:List Value}{k:Nat}(h:zs.all (fun z=>Nat.beq z.cells.size k)=true):∀ z∈zs,z.cells.size=k:=fun z hz=>Nat.eq_of_beq_eq_true (List.all_eq_true.1 h z hz)
theorem Un {A E:TypeId}{n k:Nat}[t:TyA P A n E k]{zs:List Value}[tz:TyZ P A zs]{parts:List (Nat × Operand)}{vals rs:List Value}(hx:L8 e (parts.map (·.2))=some vals) 
  (hr:(bif zs.all (fun z=>Nat.beq z.cells.size k) then mK zs (parts.map (·.1)) vals else none)=some rs) (hd:Nat.blt d N=true) (h:WL P N ops Q rest ((d,st rs)::e) w):WL P N ops Q (⟨some d,.build A parts.toArray,ty,pos,af,none⟩::rest) e w:=by
 obtain⟨z,hz,hzc⟩:=QP (P:=P) (w:=w) tz;cases hf:zs.all (fun z=>Nat.beq z.cells.size k) with
 | false=>simp[hf] at hr
 | true=>
 simp only[hf,cond_true] at hr;have hk:=Ag hf;refine O3 (fun B hB=>?_) hd h;have hmap:(parts.toArray.map fun (p:Nat × Operand)=>(p.1,B.eval p.2)).toList=(parts.map (·.1)).zip vals:=by
  rw[<- hB.evals hx];simp[List.zip_map',List.map_map]
 have hfill:=(uM (place:=fun i=>some (i*k,k)) (by
  intro i u hi;obtain⟨hil,hie⟩:=List.getElem?_eq_some_iff.1 hi;rw[nA (k:=k) (fun x hx=>hk x (List.mem_of_mem_take hx)),hk u (List.mem_of_getElem? hi)];simp[Nat.min_eq_left (Nat.le_of_lt hil)]) hr).1
 have hmap':(Array.map (fun (x:Nat × Operand)=>(x.fst,B.eval x.snd)) parts.toArray).toList=(parts.map (·.1)).zip vals:=hmap;simp only[execOp,Instr.build,Sem.run_bind,hz,Result.andThen_ok,run_underlying t.out,run_sizeOf t.sz,hzc];rw[hmap',hfill];rfl
theorem DN {T yT:TypeId}{k yk:IntKind}{x y:Operand}{a b:Int}(n:Nat)(p:Int)(hx:ev e x=some (.int k a))(hy:ev e y=some (.int yk b))(hb:b=(n:Int))(hp:(2:Int) ^ (min n k.bits)=p)(hd:Nat.blt d N=true)
  (h:WL P N ops Q rest ((d,.int k (a / p))::e) w):WL P N ops Q (⟨some d,.binOp .shr T x y yT,ty,pos,af,none⟩::rest) e w:=
 XR hx hy (fun w=>by
  subst hb;have h0:¬ ((n:Int)<0):=by omega
  have h1:(0:Int)<=p:=by rw[<- hp];exact Int.pow_nonneg dc
  have e1:Int.fdiv a (2 ^ min n k.bits)=a / p:=by rw[hp];exact Int.fdiv_eq_ediv_of_nonneg a h1
  simp only[Op.shift,h0,if_false,Int.toNat_natCast,e1];rfl) (.inr rfl) hd h
theorem St.start (w:World)(ok:Nat->Prop)(hf:∀ b,w.heap.size<=b->ok b):St ⟨w,ok,fun _=>False⟩ ok [] w:=
 ⟨rfl,rfl,rfl,Nat.le_refl _,fun _ _ _=>rfl,fun _ h=>h,hf,sm,sm,sm⟩
theorem St.out {w0:World}{ok0:Nat->Prop}(h:St ⟨w0,ok0,fun _=>False⟩ ok m w):Ext w0 w:=⟨h.os,h.tape,h.output,h.size,fun b hb=>h.old b hb (fun h=>h)⟩
end
end Tw
namespace Tw
open Go Go.RowKit
theorem Sl.form {ok:Nat->Prop}{w:World}{E:TypeId}{k:Nat}{v:Value}{α:Type}{f:α->Value}{l:List α}(h:Sl ok w E k v (l.map f)) :
  ∃ A c,v=.slice A l.length c/\Sl ok w E k (.slice A l.length c) (l.map f)/\l.length<=c/\c<=maxLen:=by
 obtain⟨h1,h2,A,c,hv,hc,hm,hr⟩:=h;rw[llm] at hv hc;subst hv;exact⟨A,c,rfl,⟨h1,h2,A,c,by rw[llm],by rw[llm];exact hc,hm,hr⟩,hc,hm⟩
theorem Sl.cap {ok:Nat->Prop}{w:World}{E:TypeId}{k n c:Nat}{A:Option Addr}{vs:List Value}(h:Sl ok w E k (.slice A n c) vs):n=vs.length/\n<=c/\c<=maxLen:=by
 obtain⟨_,_,A',c',hv,hc,hm,_⟩:=h;injection hv with h1 h2 h3
 subst h2 h3;exact⟨rfl,hc,hm⟩
def yM:Value->Option UInt8
 | .int .u8 n=>some (UInt8.ofNat n.toNat)
 | _=>none
def eD:List Value->Option Bs
 | []=>some []
 | v::vs=>(match yM v,eD vs with|some b,some l=>some (b::l)|_,_=>none)
theorem NS:∀ {cs:List Value} {l:Bs},eD cs=some l->∃ ns:List Int,cs=ns.map (Value.int .u8)/\l=ns.map fun n=>UInt8.ofNat n.toNat
 | [],l,h=>⟨[],rfl,by simpa[eD] using h.symm⟩
 | v::vs,l,h=>by
  unfold eD at h;cases hb:yM v with
  | none=>simp[hb] at h
  | some b=>
   cases hr:eD vs with
   | none=>simp[hb,hr] at h
   | some r=>
    simp[hb,hr] at h;subst h;obtain⟨ns,h1,h2⟩:=NS hr;unfold yM at hb;split at hb
    ·rename_i n;injection hb with hb
     exact⟨n::ns,by rw[h1];rfl,by rw[h2,<- hb];rfl⟩
    ·cases hb
theorem IK:∀ l:Bs,eD (l.map j6)=some l
 | []=>rfl
 | b::l=>by
  have:=IK l;simp only[List.map_cons,eD,this];simp[j6,yM]
theorem GU:∀ l:Bs,fl (l.map j6)=l.map j6
 | []=>rfl
 | b::l=>by
  rw[List.map_cons,lM,GU l];rfl
section
variable {P:Program} {N:Nat} {ops:Array Oper} {Q:Exit->Act->World->Prop} {rest:List Oper} {e:Env} {w w':World} {d:Nat} {ty:TypeId} {pos:String} {af:Array Edge}
 {s:Base} {ok:Nat->Prop} {m:List Piece}
theorem Ai {S D E:TypeId}{kS bS:Nat}(tS:TyL P S E kS bS)(tE:TyI P E .u8)(tD:TyT P D){b o n c:Nat}{cs:List Value}{l:Bs}(hr:Rg w b o cs)(hn:cs.length=n)(hl:eD cs=some l) :
  (convert S D (.slice (some ⟨b,o,none⟩) n c)).run P w=.ok (sv l) w:=by
 obtain⟨ns,rfl,rfl⟩:=NS hl;have h1:=Ao (P:=P) hr;rw[hn] at h1;rw[run_convert_bytes_string w S D E _ n c tS.out tE.out tD.out,run_bytesToString w _ n c ns h1,foldl_push_bytes];simp[ByteArray.empty,ByteArray.emptyWithCapacity];rfl
theorem PQ {S D E:TypeId}{kS bS:Nat}[tS:TyL P S E kS bS][tE:TyI P E .u8][tD:TyT P D]{x:Operand}{g n c:Nat}{T0:TypeId}{vs:List Value}{l:Bs}(hS:St s ok m w)(hx:ev e x=some (.slice (some ⟨g,0,none⟩) n c))(hm:Has m (.var g T0 vs))
  (hl:eD (fl vs)=some l) (hn:l.length=n) (hd:Nat.blt d N=true) (h:WL P N ops Q rest ((d,sv l)::e) w):WL P N ops Q (⟨some d,.convert S D x,ty,pos,af,none⟩::rest) e w:=by
 obtain⟨hb,_⟩:=hS.at_ _ hm.mem;have hlen:(fl vs).length=n:=by
  obtain⟨ns,h1,h2⟩:=NS hl;rw[h1,<- hn,h2];simp
 exact O3 (fun A hA=>by simp[execOp,hA.eval hx,Ai tS tE tD (Rg.of_block hb) hlen hl]) hd h
theorem XM {S D E:TypeId}{kS bS:Nat}[tS:TyL P S E kS bS][tE:TyI P E .u8][tD:TyT P D]{x:Operand}{A:Option Addr}{n c:Nat}{l:Bs}(hx:ev e x=some (.slice A n c))(hs:Sl ok w E 1 (.slice A n c) (l.map j6))
  (hd:Nat.blt d N=true) (h:WL P N ops Q rest ((d,sv l)::e) w):WL P N ops Q (⟨some d,.convert S D x,ty,pos,af,none⟩::rest) e w:=by
 obtain⟨e1,_,A',c',hv,_,_,hr⟩:=hs;injection hv with a1 a2 a3
 subst a1 a2 a3;have hfl:fl (l.map j6)=l.map j6:=GU l;refine O3 (fun B hB=>?_) hd h;rcases Nat.eq_zero_or_pos (l.map j6).length with h0|h0
 ·have:l=[]:=by simpa using h0
  subst this;cases hA:A with
  | none=>
   have:=run_convert_bytes_nil (P:=P) w S E tS.out tE.out 0 c D tD.out;simp only[List.map_nil,List.length_nil] at hx ⊢;simp[execOp,hB.eval hx,hA,this];rfl
  | some a=>
   have h1:(loadCells a 0).run P w=.ok ([].map (Value.int .u8)).toArray w:=by simpa using run_loadCells_list (P:=P) w a [] sm
   have h2:=run_bytesToString (P:=P) w a 0 c [] h1;have h3:=run_convert_bytes_string (P:=P) w S D E (some a) 0 c tS.out tE.out tD.out;simp only[List.map_nil,List.length_nil] at hx ⊢;simp[execOp,hB.eval hx,hA,h3,h2];rfl
 ·obtain⟨b,o,hA,_,_,hg⟩:=hr h0;subst hA;rw[hfl] at hg;have:=Ai (P:=P) (w:=w) tS tE tD (n:=(l.map j6).length) (c:=c) hg rfl (IK l);simp[execOp,hB.eval hx] at this ⊢;simp[this]
theorem Tz {T E:TypeId}{k b:Nat}[t:TyL P T E k b]{x:Operand}{A:Option Addr}{n c:Nat}(hx:ev e x=some (.slice A n c))(hd:Nat.blt d N=true)
  (h:WL P N ops Q rest ((d,.int .i64 n)::e) w):WL P N ops Q (⟨some d,.call ⟨.builtin .len,#[x],#[T]⟩,ty,pos,af,none⟩::rest) e w:=
 O3 (fun B hB=>by simp[execOp,resolve,invoke,builtin,hB.eval hx,Builtin.len_,run_underlying t.out,goInt]) hd h
theorem Uc {S E:TypeId}{k bS:Nat}[t:TyL P S E k bS]{x ix:Operand}{kd:IntKind}{i:Int}{A:Option Addr}{n c:Nat}{α:Type}{f:α->Value}{l:List α}(j:Nat)(hx:ev e x=some (.slice A n c))(hi:ev e ix=some (.int kd i))(hs:Sl ok w E k (.slice A n c) (l.map f))
  (hj:i=(j:Int)) (hlt:j<l.length) (hd:Nat.blt d N=true)
  (h:∀ b o,ok b->Rg w b o (f l[j]).cells.toList->WL P N ops Q rest ((d,.pointer (some ⟨b,o,none⟩))::e) w):WL P N ops Q (⟨some d,.indexAddr S x ix,ty,pos,af,none⟩::rest) e w:=by
 obtain⟨hn,_,_⟩:=hs.cap;obtain⟨b,o,hA,ho,hr⟩:=hs.elem (i:=j) (by simpa using hlt);subst hA hj hn;rw[List.getElem_map] at hr;have hin:(0:Int)<=(j:Int)/\(j:Int)<((l.map f).length:Nat):=by simp;omega
 exact O3 (fun B hB=>by
  simp only[execOp,hB.eval hx,hB.eval hi,Instr.indexAt,asIntOf,Sem.run_bind,Sem.run_pure,Result.andThen_ok,run_underlying t.out,hin,and_self,if_true,run_sizeOf (show (P.info? E).map (·.size)=some k by
   have:=t.sz;cases hq:P.info? E with
   | none=>simp[hq] at this
   | some i=>simp[hq] at this ⊢;exact this.1),Int.toNat_natCast,add_mid]) hd (h b _ ho hr)
theorem TyL.size {S E:TypeId}{k bS:Nat}(t:TyL P S E k bS):(P.info? E).map (·.size)=some k:=by
 have:=t.sz;cases hq:P.info? E with
 | none=>simp[hq] at this
 | some i=>simp[hq] at this ⊢;exact this.1
def bO (e:Env)(n:Nat):Option Operand->Option Int
 | none=>some n
 | some x=>(match ev e x with|some (.int _ i)=>some i|_=>none)
theorem kN {n:Nat}{x:Option Operand}{i:Nat}{B:Act}(hB:Sat N e B)(h:bO e n x=some (i:Int)):(x.map B.eval=none/\i=n)\/∃ kd,x.map B.eval=some (.int kd (i:Int)):=by
 cases x with
 | none=>simp[bO] at h;exact .inl ⟨rfl,om⟩
 | some y=>
  simp only[bO] at h;split at h
  ·rename_i kd j hy;injection h with h
   subst h;exact .inr ⟨kd,by simp[hB.eval hy]⟩
  ·cases h
theorem zU {sl:Bool}{n c lo hi:Nat}{vl vh:Option Value}(hl:(vl=none/\lo=0)\/∃ kd,vl=some (.int kd (lo:Int)))(hh:(vh=none/\hi=n)\/∃ kd,vh=some (.int kd (hi:Int)))(h1:lo<=hi)(h2:hi<=c) :
  (Instr.sliceBounds sl n c vl vh none).run P w=.ok (lo,hi,c) w:=by
 rcases hl with⟨rfl,rfl⟩|⟨kd,rfl⟩ <;> rcases hh with⟨rfl,rfl⟩|⟨kd',rfl⟩ <;> simp[Instr.sliceBounds,Instr.sliceBound,asIntOf,h1,h2]
theorem XO {S:TypeId}[t:TyT P S]{x:Operand}{xl xh:Option Operand}{il ih:Int}{a:Bs}(lo hi:Nat)(hx:ev e x=some (sv a))
  (hl:bO e 0 xl=some il) (hh:bO e a.length xh=some ih) (h1:il=(lo:Int)) (h2:ih=(hi:Int)) (h3:lo<=hi) (h4:hi<=a.length) (hd:Nat.blt d N=true)
  (h:WL P N ops Q rest ((d,sv ((a.take hi).drop lo))::e) w):WL P N ops Q (⟨some d,.slice S x xl xh none,ty,pos,af,none⟩::rest) e w:=by
 subst h1 h2;refine O3 (fun B hB=>?_) hd h;have hb:=zU (P:=P) (w:=w) (sl:=false) (kN hB hl) (kN hB hh) h3 h4;have he:(⟨a.toArray⟩:ByteArray).extract lo hi=⟨((a.take hi).drop lo).toArray⟩:=by
  apply ByteArray.ext;rw[ByteArray.data_extract];apply Array.ext';simp[List.drop_take]
 simp only[execOp,hB.eval hx,Instr.sliceAt,Instr.slice,Sem.run_bind,run_underlying t.out,Result.andThen_ok,Option.map_none,jS,hb,Sem.run_pure,Option.isSome_none,Bool.false_eq_true,if_false,he]
theorem Ta {T E:TypeId}{n k:Nat}[t:TyA P T n E k]{x:Operand}{g o:Nat}(hx:ev e x=some (.pointer (some ⟨g,o,none⟩)))(hd:Nat.blt d N=true)
  (h:WL P N ops Q rest ((d,.slice (some ⟨g,o,none⟩) n n)::e) w):WL P N ops Q (⟨some d,.slice T x none none none,ty,pos,af,none⟩::rest) e w:=
 O3 (fun B hB=>by simp[execOp,hB.eval hx,Instr.sliceAt,Instr.sureAddr,run_underlying t.out,run_sizeOf t.sz,Instr.sliceBounds,Addr.add]) hd h
end
end Tw
namespace Tw
open Go Go.RowKit
section
variable {s:Base} {ok:Nat->Prop} {m:List Piece} {w:World}
theorem St.nilRow (h:St s ok m w)(E:TypeId)(k:Nat):St s ok (.row (.slice none 0 0) E k []::m) w:=
 ⟨h.os,h.tape,h.output,h.size,h.old,h.sub,h.fresh,fun p hp=>by
  rcases List.mem_cons.1 hp with rfl|hp
  ·exact⟨World.ownsRow_nil w 0 E k,Good.nil,sm⟩
  ·exact h.at_ p hp,fun p hp g hg=>by
  rcases List.mem_cons.1 hp with rfl|hp
  ·simp[Piece.blk,Value.ownBlock] at hg
  ·exact h.own p hp g hg,List.pairwise_cons.2 ⟨fun q _ g hg=>by simp[Piece.blk,Value.ownBlock] at hg,h.dis⟩⟩
theorem St.appended {v v':Value}{E:TypeId}{k:Nat}{vs us:List Value}{pre post:List Piece}{w':World}(h:St s ok (pre++.row v E k vs::post) w)
  (ho:w'.ownsRow 0 E k v' (vs.length+us.length) (fl vs++fl us)) (hg:w.grownBy w' v.ownBlock) (hw:v'.ownBlock=v.ownBlock\/v'.ownBlock=some w.heap.size) (hu:Good us) (hk:∀ x∈us,x.cells.size=k) :
  ∃ ok',St s ok' (pre++.row v' E k (vs++us)::post) w'/\Stp ok w ok' w':=by
 have hpm:Piece.row v E k vs∈pre++.row v E k vs::post:=sm
 obtain⟨hat,hgood,hkv⟩:=h.at_ _ hpm;have hdis:=h.dis;rw[List.pairwise_append,List.pairwise_cons] at hdis;obtain⟨d1,⟨d2,d3⟩,d4⟩:=hdis;have hne:∀ q,q∈pre\/q∈post->∀ g',q.blk=some g'->v.ownBlock≠some g':=by
  rintro q (hq|hq) g' hg' e
  ·exact d4 q hq (.row v E k vs) sm g' hg' e
  ·exact d2 q hq g' e hg'
 have hne':∀ q,q∈pre\/q∈post->∀ g',q.blk=some g'->v'.ownBlock≠some g':=by
  intro q hq g' hg';rcases hw with hw|hw <;> rw[hw]
  ·exact hne q hq g' hg'
  ·intro e;injection e with e
   have:=(h.own q (by rcases hq with hq|hq <;> simp[hq]) g' hg').1;omega
 have hlt:∀ g,v'.ownBlock=some g->g<w'.heap.size:=fun g hg'=>(ho.lt g hg').2;have hkeep:∀ b,b<w.heap.size->ok b->w'.heap[b]?=w.heap[b]?:=fun b hb hob=>hg.block b hb fun e=>(h.own _ hpm b e.symm).2.1 hob;refine⟨fun b=>ok b/\v'.ownBlock≠some b,⟨hg.os.trans h.os,hg.tape.trans h.tape,hg.output.trans h.output,Nat.le_trans h.size hg.size,?_,fun b hb=>h.sub b hb.1,?_,?_,?_,?_⟩,⟨hg.size,?_⟩⟩
 ·intro b hb hb2;rw[hg.block b (Nat.lt_of_lt_of_le hb h.size) (fun e=>?_)]
  ·exact h.old b hb hb2
  ·rcases (h.own _ hpm b e.symm).2.2 with h1|h1
   ·omega
   ·exact hb2 h1
 ·intro b hb;exact⟨h.fresh b (Nat.le_trans hg.size hb),fun e=>by have:=hlt b e;omega⟩
 ·intro q hq;rw[List.mem_append,List.mem_cons] at hq;rcases hq with hq|rfl|hq
  ·exact Piece.at_of_block (h.at_ q (by simp[hq])) fun g' hg'=>hg.block g' (h.own q (by simp[hq]) g' hg').1 (fun e=>hne q (.inl hq) g' hg' e.symm)
  ·refine⟨by rw[lla,yD];exact ho,hgood.append hu,fun x hx=>?_⟩;rcases List.mem_append.1 hx with hx|hx
   ·exact hkv x hx
   ·exact hk x hx
  ·exact Piece.at_of_block (h.at_ q (by simp[hq])) fun g' hg'=>hg.block g' (h.own q (by simp[hq]) g' hg').1 (fun e=>hne q (.inr hq) g' hg' e.symm)
 ·intro q hq g' hg';rw[List.mem_append,List.mem_cons] at hq;have other:(q∈pre\/q∈post)->g'<w'.heap.size/\¬ (ok g'/\v'.ownBlock≠some g')/\(s.w.heap.size<=g'\/s.md g'):=fun hq=>by
   obtain⟨a,b,c⟩:=h.own q (by rcases hq with hq|hq <;> simp[hq]) g' hg';exact⟨Nat.lt_of_lt_of_le a hg.size,fun hh=>b hh.1,c⟩
  rcases hq with hq|rfl|hq
  ·exact other (.inl hq)
  ·refine⟨hlt g' hg',fun hh=>hh.2 hg',?_⟩;rcases hw with hw|hw
   ·have hgg:v'.ownBlock=some g':=hg';rw[hw] at hgg;exact(h.own _ hpm g' hgg).2.2
   ·have hgg:v'.ownBlock=some g':=hg';rw[hw] at hgg;injection hgg with hgg
    left
    have:=h.size;omega
  ·exact other (.inr hq)
 ·rw[List.pairwise_append,List.pairwise_cons];refine⟨d1,⟨fun q hq g' hg' e=>hne' q (.inr hq) g' e hg',d3⟩,fun q hq r hr g' hg'=>?_⟩;rcases List.mem_cons.1 hr with rfl|hr
  ·exact hne' q (.inl hq) g' hg'
  ·exact d4 q hq r (by simp[hr]) g' hg'
 ·intro b hb hob;refine⟨hkeep b hb hob,hob,?_⟩;rcases hw with hw|hw <;> rw[hw]
  ·exact fun e=>(h.own _ hpm b e).2.1 hob
  ·intro e;injection e with e
   omega
end
section
variable {P:Program} {N:Nat} {ops:Array Oper} {Q:Exit->Act->World->Prop} {rest:List Oper} {e:Env} {w w':World} {d:Nat} {ty:TypeId} {pos:String} {af:Array Edge}
 {s:Base} {ok:Nat->Prop} {m:List Piece}
theorem Zb {m:List Piece}{i:Nat}{p p':Piece}(h:m[i]?=some p):∃ pre post,m=pre++p::post/\m.set i p'=pre++p'::post:=by
 obtain⟨hi,he⟩:=List.getElem?_eq_some_iff.1 h;refine⟨m.take i,m.drop (i+1),?_,?_⟩
 ·conv=>lhs;rw[<- List.take_append_drop i m]
  rw[List.drop_eq_getElem_cons hi,he]
 ·rw[List.set_eq_take_append_cons_drop,if_pos hi]
theorem Zk {T E:TypeId}{k b:Nat}(t:TyL P T E k b){zs:List Value}(tz:TyZ P E zs)(hzl:(fl zs).length=k)(hk0:0<k){v:Value}{vs us:List Value}{A:Option Addr}{n c:Nat}{oT:TypeId}
  (ho:w.ownsRow 0 E k v vs.length (fl vs)) (hA:A=none->n=0) (hn:us.length=n) (hk:∀ x∈us,x.cells.size=k) (hu:Good us) (hr:∀ p,A=some p->∀ j u,(fl us)[j]?=some u->w.cell? (p.add j)=some u)
  (hb:(vs.length+n)*b<=140737488355328) (hm:vs.length+n<=maxLen) :
  ∃ v' w',(Builtin.append_ #[T,T] oT #[v,.slice A n c]).run P w=.ok v' w'/\w'.ownsRow 0 E k v' (vs.length+us.length) (fl vs++fl us)/\w.grownBy w' v.ownBlock/\(v'.ownBlock=v.ownBlock\/v'.ownBlock=some w.heap.size):=by
 have hsz:=t.sz;have htz:=tz.out;cases hq:P.info? E with
 | none=>simp[hq] at hsz
 | some i=>
  simp[hq] at hsz;cases hz:i.zero with
  | none=>simp[hq,hz] at htz
  | some z=>
   simp[hq,hz] at htz;cases A with
   | none=>
    have h0:=hA rfl;subst h0;have hus:us=[]:=List.eq_nil_of_length_eq_zero hn;subst hus;refine⟨v,w,?_,by simpa using ho,⟨rfl,rfl,rfl,Nat.le_refl _,fun _ _ _=>rfl⟩,.inl rfl⟩;rcases ho.2 with⟨rfl,h0⟩|⟨g,cap,x9,rfl,_,_,hnc,_⟩
    ·simp[Builtin.append_,run_underlying t.out,Go.sizeOf,typeInfo,hq,Builtin.lenOf,Builtin.firstCells]
    ·simp[Builtin.append_,run_underlying t.out,Go.sizeOf,typeInfo,hq,Builtin.lenOf,Builtin.firstCells,hnc,storeCells]
   | some a=>
    subst hn;have hzk:z.cells.size=k:=by rw[<- hzl,<- htz,Array.length_toList]
    obtain⟨v',w',h1,h2,h3,_,h5⟩:=run_append_own_at (P:=P) w 0 T oT E i z k b t.out hq hz hsz.1 hsz.2 hzk hk0 v vs.length (fl vs) ho a us.length c (fl us) (nA hk) (hr a rfl) hu hm hb (Nat.zero_le _);exact⟨v',w',h1,h2,h3,h5⟩
theorem YA (i:Nat){T E:TypeId}{k b:Nat}[t:TyL P T E k b]{zs:List Value}[tz:TyZ P E zs]{xs x:Operand}{v:Value}{vs us:List Value}{A:Option Addr}{n c:Nat}(hS:St s ok m w)
  (hs:ev e xs=some v) (hx:ev e x=some (.slice A n c)) (hm:m[i]?=some (.row v E k vs)) (hsl:Sl ok w E k (.slice A n c) us) (hk:Nat.beq (fl zs).length k=true) (hk0:Nat.blt 0 k=true) (hd:Nat.blt d N=true)
  (hb:(vs.length+us.length)*b<=140737488355328) (hl:vs.length+us.length<=maxLen)
  (h:∀ v' ok' w',St s ok' (m.set i (.row v' E k (vs++us))) w'->Stp ok w ok' w'->WL P N ops Q rest ((d,v')::e) w') :
  WL P N ops Q (⟨some d,.call ⟨.builtin .append,#[xs,x],#[T,T]⟩,ty,pos,af,none⟩::rest) e w:=by
 obtain⟨hn,hc,hmx⟩:=hsl.cap;obtain⟨hat,hgood,hkv⟩:=hS.at_ _ (List.mem_of_getElem? hm);obtain⟨e1,e2,A',c',hv,_,_,hr⟩:=hsl;injection hv with a1 a2 a3
 subst a1 a3;obtain⟨v',w',h1,h2,h3,h4⟩:=Zk (P:=P) (w:=w) (oT:=ty) t tz (Nat.eq_of_beq_eq_true hk) (nlb hk0) hat (A:=A) (n:=n) (c:=c) (us:=us) (fun hA=>by
   rcases Nat.eq_zero_or_pos us.length with h0|h0
   ·omega
   ·obtain⟨_,_,hA',_⟩:=hr h0;rw[hA] at hA';cases hA') hn.symm e1 e2 (fun p hp j u hj=>by
   have h0:0<us.length:=by
    rcases Nat.eq_zero_or_pos us.length with h0|h0
    ·have:us=[]:=List.eq_nil_of_length_eq_zero h0;subst this;simp at hj
    ·exact h0
   obtain⟨b',o',hA',_,_,hg⟩:=hr h0;rw[hp] at hA';injection hA' with hA'
   subst hA';rw[add_mid];exact hg.cell hj) (by rw[hn];exact hb) (by rw[hn];exact hl)
 obtain⟨pre,post,rfl,hset⟩:=Zb (p':=.row v' E k (vs++us)) hm;obtain⟨ok',hS',hE'⟩:=hS.appended h2 h3 h4 e2 e1;rw[<- hset] at hS';exact O3 (fun B hB=>by simp[execOp,resolve,invoke,builtin,hB.eval hs,hB.eval hx,h1]) hd (h v' ok' w' hS' hE')
theorem ZT {z v:Value}(h:z.cells.size=v.cells.size):∀ (a b:List Value),jT (a++z::b) a.length v=some (a++v::b)
 | [],b=>by
  have:Nat.beq z.cells.size v.cells.size=true:=by rw[h];exact Nat.beq_refl _
  simp[jT,this]
 | y::a,b=>by
  have:=ZT h a b;simp[jT,this]
theorem EL {z:Value}:∀ (vals done:List Value),(∀ v∈vals,z.cells.size=v.cells.size)->mK (done++List.replicate vals.length z) (List.range' done.length vals.length) vals=some (done++vals)
 | [],done,_=>by simp[mK]
 | v::vals,done,h=>by
  simp only[List.length_cons,List.replicate_succ,List.range'_succ,mK];rw[ZT (h v sm) done];have:=EL vals (done++[v]) (fun u hu=>h u (by simp[hu]));simp only[List.length_append,List.length_singleton,List.append_assoc,List.singleton_append] at this;exact this
theorem GV (C:Array Value){v:Value}(hv:v.cells=C):∀ n:Nat,fl (List.replicate n v)=(List.range (n*C.size)).map fun i=>C[i%C.size]!
 | 0=>by simp
 | n+1=>by
  rw[List.replicate_succ',yD,GV C hv n,Nat.add_mul,Nat.one_mul,List.range_add,List.map_append,List.map_map];congr 1
  simp only[lM,a4R,List.append_nil,hv];apply List.ext_getElem
  ·simp
  ·intro i h1 h2;have hi:i<C.size:=by simpa using h1
   simp[Nat.mod_eq_of_lt hi,hi]
theorem Um {T E:TypeId}{k b:Nat}[t:TyL P T E k b]{zs:List Value}[tz:TyZ P E zs]{n:Nat}{parts:List (Nat × Operand)}{vals:List Value}(hS:St s ok m w)(hx:L8 e (parts.map (·.2))=some vals)
  (hi:parts.map (·.1)=List.range n) (hk:vals.all (fun v=>Nat.beq v.cells.size k)=true) (hg:(fl vals).all (·.oneCell')=true) (hz:Nat.beq (fl zs).length k=true) (hk0:Nat.blt 0 k=true) (hs:Nat.ble (n*k) 65536=true) (hn0:Nat.blt 0 n=true) (hd:Nat.blt d N=true)
  (h:∀ g w',St s ok m w'->Ex ok w ok w'->Sl ok w' E k (.slice (some ⟨g,0,none⟩) vals.length vals.length) vals->WL P N ops Q rest ((d,.slice (some ⟨g,0,none⟩) vals.length vals.length)::e) w') :
  WL P N ops Q (⟨some d,.buildSlice T n parts.toArray,ty,pos,af,none⟩::rest) e w:=by
 obtain⟨z,hzr,hzc⟩:=QP (P:=P) (w:=w) tz;have hkv:=Ag hk;have hzk:z.cells.size=k:=by rw[hzc];simpa using Nat.eq_of_beq_eq_true hz
 have hkp:0<k:=nlb hk0;have hnp:0<n:=nlb hn0;have hnk:n*k<=65536:=nlb hs;have hlen:vals.length=n:=by
  have h1:(parts.map (·.2)).length=vals.length:=by
   have:∀ (xs:List Operand) (us:List Value),L8 e xs=some us->xs.length=us.length:=by
    intro xs
    induction xs with
    | nil=>intro us h;simp[L8] at h;subst h;rfl
    | cons x xs ih=>
     intro us h;unfold L8 at h;split at h
     ·rename_i v1 v2 _ h2;injection h with h
      subst h;simp[ih _ h2]
     ·cases h
   exact this _ _ hx
  have h2:(parts.map (·.1)).length=n:=by rw[hi];simp
  simp at h1 h2;omega
 subst hlen;have hcells:((Array.range (vals.length*k)).map (z.cells[· % z.cells.size]!))=(fl (List.replicate vals.length (.agg z.cells))).toArray:=by
  apply Array.ext';rw[GV z.cells (v:=.agg z.cells) rfl,hzk];simp
 have hset:=EL (z:=.agg z.cells) vals [] (fun v hv=>by rw[hkv v hv];exact hzk);simp only[List.nil_append,List.length_nil] at hset;have hfill:=(uM (place:=fun i=>some (i*k,k)) (by
  intro i u hiu;obtain⟨hil,hie⟩:=List.getElem?_eq_some_iff.1 hiu;rw[List.getElem_replicate] at hie;subst hie;have hil':i<vals.length:=by simpa using hil
  rw[nA (k:=k) (fun x hx=>by
   have:=List.mem_of_mem_take hx;rw[List.mem_replicate] at this;rw[this.2];exact hzk)]
  simp[Nat.min_eq_left (Nat.le_of_lt hil')];exact hzk.symm) hset).1
 have hE:=Ext.alloc w (.cells (fl vals).toArray E);have hblk:(w.alloc (.cells (fl vals).toArray E)).heap[w.heap.size]?=some (.cells (fl vals).toArray E (0,0)):=heap_alloc_new w _;have hsl:Sl ok (w.alloc (.cells (fl vals).toArray E)) E k (.slice (some ⟨w.heap.size,0,none⟩) vals.length vals.length) vals:=
  ⟨hkv,uJ hg,_,_,rfl,Nat.le_refl _,by
   have:vals.length<=vals.length*k:=Nat.le_mul_of_pos_right _ hkp;simp only[maxLen];omega,fun _=>⟨_,0,rfl,hS.fresh _ (Nat.le_refl _),rfl,Rg.of_block hblk⟩⟩
 refine O3 (w':=w.alloc (.cells (fl vals).toArray E)) (fun B hB=>?_) hd (h _ _ (hS.ext hE) (Ex.of_ext hE ok) hsl);have hmap':(Array.map (fun (x:Nat × Operand)=>(x.fst,B.eval x.snd)) parts.toArray).toList=(List.range' 0 vals.length).zip vals:=by
  rw[<- List.range_eq_range',<- hi]
  conv=>rhs;rw[<- hB.evals hx]
  simp[List.zip_map',List.map_map]
 have h0:¬ vals.length*k > 2 ^ 24:=om
 have h1:¬ vals.length*k=0:=by
  have:=Nat.mul_pos hnp hkp;omega
 simp only[execOp,Instr.buildSlice,Sem.run_bind,run_underlying t.out,Result.andThen_ok,run_sizeOf t.size,h0,h1,if_false,Sem.run_pure,hzr];rw[hmap',hcells,hfill];simp[newRow,newObj,Sem.run]
end
attribute [irreducible] WL WC WE Ret
end Tw
