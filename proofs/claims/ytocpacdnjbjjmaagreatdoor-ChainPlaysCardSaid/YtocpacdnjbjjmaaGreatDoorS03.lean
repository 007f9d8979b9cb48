/- . -/
import Derived.Orders
import Derived.Scope
import Derived.Test.YtocpacdnjbjjmaaGreatDoorS02
namespace Tw
open Go Go.RowKit
inductive Asn where
 | eqv (x:Value)
 | is (A:Value->(Nat->Prop)->World->Prop)
def Asn.on:Asn->Value->(Nat->Prop)->World->Prop
 | .eqv x,v,_,_=>v=x
 | .is A,v,ok,w=>A v ok w
def Late (s:Base)(m:List Piece)(ok0:Nat->Prop)(w0:World)(A:Value->(Nat->Prop)->World->Prop)(v:Value)(ok:Nat->Prop)(w:World):Prop:=
 ∃ ok1 w1,A v ok1 w1/\St s ok1 m w1/\Ex ok0 w0 ok1 w1/\Ex ok1 w1 ok w
theorem Late.ex {s:Base}{m:List Piece}{ok0 ok ok':Nat->Prop}{w0 w w':World}{A:Value->(Nat->Prop)->World->Prop}{v:Value}(h:Late s m ok0 w0 A v ok w)(e:Ex ok w ok' w'):Late s m ok0 w0 A v ok' w':=by
 obtain⟨ok1,w1,h1,h2,h3,h4⟩:=h;exact⟨ok1,w1,h1,h2,h3,h4.trans e⟩
def sW (l:List Oper)(i:Nat):Option Nat:=(l[i]?).bind (·.dst)
def jN (l:List Oper)(i j:Nat):Bool:=((l[i]?).map fun o=>o.after.toList.any fun e=>Region.binds .any e&&Nat.beq e.on j).getD false
def NK (l:List Oper)(i j:Nat):Bool:=jN l i j || (List.range i).any fun k=>Nat.blt j k&&jN l k j
def xW:List Nat->Nat->Bool
 | [],_=>false
 | x::xs,n=>bif Nat.beq x n then true else xW xs n
theorem Ib {l:List Nat}{n:Nat}:xW l n=l.contains n:=by
 induction l with
 | nil=>rfl
 | cons x xs ih=>
  unfold xW;rw[List.contains_cons,ih];by_cases h:x=n
  ·subst h;simp
  ·rw[bE h];simp[Ne.symm h]
def kJ (l:List Oper)(o:Oper):List Nat:=
 (o.op.operands.toList.filterMap fun|.tmp t=>some t|_=>none)++(match o.guard with|some (g,_)=>(sW l g).toList|none=>[])
def xB (l:List Oper)(xs:List Nat)(i:Nat):List Oper->Nat->Nat->List Nat
 | _,_,0=>[]
 | [],_,_=>[]
 | q::qs,j,m+1=>bif (match q.dst with|some d=>xW xs d|none=>false)&&(!Nat.beq j i&&jN l i j) then j::xB l xs i qs (j+1) m else xB l xs i qs (j+1) m
def QO (l:List Oper)(m i:Nat)(o:Oper):List Nat:=xB l (kJ l o) i l 0 m
theorem KA {l:List Oper}{xs:List Nat}{i:Nat}:∀ {qs:List Oper} {j m k:Nat},k∈xB l xs i qs j m->j<=k/\k<j+m/\k≠i/\jN l i k=true
 | qs,j,0,k,h=>by cases qs <;> simp[xB] at h
 | [],j,m+1,k,h=>by simp[xB] at h
 | q::qs,j,m+1,k,h=>by
  unfold xB at h;generalize hc:((match q.dst with|some d=>xW xs d|none=>false)&&(!Nat.beq j i&&jN l i j))=c at h;cases c with
  | false=>
   have:=KA h;exact⟨om,om,this.2.2⟩
  | true=>
   rcases List.mem_cons.1 h with rfl|h
   ·simp only[Bool.and_eq_true] at hc;refine⟨Nat.le_refl _,om,?_,hc.2.2⟩;rintro rfl;simp at hc
   ·have:=KA h;exact⟨om,om,this.2.2⟩
def bW (l:List Oper):Nat->Nat->Nat->Bool
 | 0,j,i=>jN l j i
 | n+1,j,i=>jN l j i || (List.range j).any fun k=>jN l j k&&bW l n k i
def wC:List Nat->Env->Env
 | [],e=>e
 | d::D,e=>wC D (e.filter fun p=>!Nat.beq p.1 d)
theorem TR {d:Nat}:∀ {e:Env} {t:Nat} {v:Value},lk (e.filter fun p=>!Nat.beq p.1 d) t=some v->lk e t=some v/\t≠d
 | [],t,v,h=>by simp[lk] at h
 | (a,u)::e,t,v,h=>by
  by_cases had:a=d
  ·subst had;simp at h;obtain⟨h1,h2⟩:=TR (by simpa using h);refine⟨?_,h2⟩;unfold lk;simp[bE (Ne.symm h2),h1]
  ·rw[List.filter_cons_of_pos (by simp[bE had])] at h;unfold lk at h ⊢;by_cases hat:a=t
   ·subst hat;simp at h ⊢;exact⟨h,had⟩
   ·simp[bE hat] at h ⊢;exact TR (by simpa using h)
theorem xQ:∀ {D:List Nat} {e:Env} {t:Nat} {v:Value},lk (wC D e) t=some v->lk e t=some v/\t ∉ D
 | [],e,t,v,h=>⟨h,sm⟩
 | d::D,e,t,v,h=>by
  obtain⟨h1,h2⟩:=xQ (D:=D) h;obtain⟨h3,h4⟩:=TR h1;exact⟨h3,by simp[h4,h2]⟩
def yQ (l:List Oper)(ds ws:List Nat)(i:Nat):List Nat:=match ws with
 | []=>[]
 | w::ws=>bif Nat.beq w i || bW l 2 w i then yQ l ds ws i else ds.getD w 0::yQ l ds ws i
theorem Pb {l:List Oper}{ds:List Nat}{i j:Nat}:∀ {ws:List Nat},j∈ws->ds.getD j 0∈yQ l ds ws i\/j=i\/bW l 2 j i=true
 | [],h=>by simp at h
 | w::ws,h=>by
  unfold yQ;generalize hc:(Nat.beq w i || bW l 2 w i)=c;rcases List.mem_cons.1 h with rfl|h
  ·cases c with
   | true=>
    rw[Bool.or_eq_true] at hc;rcases hc with hc|hc
    ·exact .inr (.inl (Nat.eq_of_beq_eq_true hc))
    ·exact .inr (.inr hc)
   | false=>exact .inl sm
  ·rcases Pb (i:=i) (l:=l) (ds:=ds) h with h|h
   ·cases c with
    | true=>exact .inl h
    | false=>exact .inl (List.mem_cons_of_mem _ h)
   ·exact .inr h
def VZ (N:Nat)(l:List Oper)(m:Nat)(ds:List Nat):Bool:=
 Nat.ble m l.length&&((List.range m).map (sW l) == ds.map some)&&ds.all (fun d=>Nat.blt d N)&&((List.range m).all fun i=>(List.range m).all fun j=>Nat.beq i j || !(Nat.beq (ds.getD i 0) (ds.getD j 0))) &&
 ((List.range l.length).all fun i=>((l[i]?).map fun o=>(o.after.toList.all fun e=>!Region.binds .any e || Nat.blt e.on i)&&(match o.op with|.defer _|.select ..=>false|_=>true)).getD false) &&
 ((List.range l.length).all fun i=>Nat.blt i m || (List.range i).all fun j=>NK l i j)
section
variable {P:Program} {N:Nat} {Q:Exit->Act->World->Prop} {e:Env} {w:World} {s:Base} {ok:Nat->Prop} {m0:List Piece}
def Given (s:Base)(m0:List Piece)(ok0:Nat->Prop)(w0:World)(As:List Asn)(ds:List Nat)(ok1:Nat->Prop)(w1:World):List Nat->Env->(Env->Prop)->Prop
 | [],e,k=>k e
 | j::js,e,k=>(match As[j]?,ds[j]? with
  | some (.eqv x),some d=>Given s m0 ok0 w0 As ds ok1 w1 js ((d,x)::e) k
  | some (.is A),some d=>∀ v,Late s m0 ok0 w0 A v ok1 w1->Given s m0 ok0 w0 As ds ok1 w1 js ((d,v)::e) k
  | _,_=>False)
def Got (ok1:Nat->Prop)(w1:World)(s:Base)(m0:List Piece)(d:Nat)(A:Asn)(a:Act)(w':World):Prop:=
 a.defers=[]/\∃ v ok',a.tmps.getD d undef=v/\A.on v ok' w'/\Ex ok1 w1 ok' w'/\St s ok' m0 w'
theorem PU {ok1 ok':Nat->Prop}{w1:World}{d:Nat}{A:Asn}{v:Value}(hd:lk e d=some v)(hS:St s ok' m0 w)(hE:Ex ok1 w1 ok' w)(hA:A.on v ok' w):WE N .normal (Exit.then (Got ok1 w1 s m0 d A) Q) e w:=by
 unfold WE;exact fun a ha=>⟨ha.defers,v,ok',ha.env d v hd,hA,hE,hS⟩
def Obls (P:Program)(N:Nat)(Q:Exit->Act->World->Prop)(e:Env)(s:Base)(m0:List Piece)(ok0:Nat->Prop)(w0:World)(l:List Oper)(m:Nat)(ds ws:List Nat)(AA:List Asn):Nat->List Oper->List Asn->Prop
 | _,os,[]=>∀ ok1 w1,St s ok1 m0 w1->Ex ok0 w0 ok1 w1->Given s m0 ok0 w0 AA ds ok1 w1 (List.range m) (wC (ws.map fun j=>ds.getD j 0) e) fun e'=>WL P N l.toArray Q os e' w1
 | _,[],_::_=>False
 | i,o::os,A::As=>(∀ ok1 w1,St s ok1 m0 w1->Ex ok0 w0 ok1 w1->Given s m0 ok0 w0 AA ds ok1 w1 (QO l m i o) (wC (yQ l ds ws i) e) fun e'=>WL P N l.toArray (Exit.then (Got ok1 w1 s m0 ((o.dst).getD 0) A) Q) [o] e' w1) /\
   Obls P N Q e s m0 ok0 w0 l m ds ws AA (i+1) os As
theorem Obls.at_ {l:List Oper}{m:Nat}{ds ws:List Nat}{AA:List Asn}{ok0:Nat->Prop}{w0:World}:∀ {As:List Asn} {os:List Oper} {i:Nat},Obls P N Q e s m0 ok0 w0 l m ds ws AA i os As ->
  (∀ (j:Nat) (A:Asn),As[j]?=some A->∃ o,os[j]?=some o/\∀ ok1 w1,St s ok1 m0 w1->Ex ok0 w0 ok1 w1->Given s m0 ok0 w0 AA ds ok1 w1 (QO l m (i+j) o) (wC (yQ l ds ws (i+j)) e) fun e'=>WL P N l.toArray (Exit.then (Got ok1 w1 s m0 ((o.dst).getD 0) A) Q) [o] e' w1) /\
  (∀ ok1 w1,St s ok1 m0 w1->Ex ok0 w0 ok1 w1->Given s m0 ok0 w0 AA ds ok1 w1 (List.range m) (wC (ws.map fun j=>ds.getD j 0) e) fun e'=>WL P N l.toArray Q (os.drop As.length) e' w1)
 | [],os,i,h=>⟨sm,by
   cases os <;> simpa[Obls] using h⟩
 | A::As,[],i,h=>by simp[Obls] at h
 | A::As,o::os,i,h=>by
  simp only[Obls] at h;obtain⟨h1,h2⟩:=Obls.at_ h.2;refine⟨fun j B hj=>?_,by simpa using h2⟩;cases j with
  | zero=>
   simp at hj;subst hj;exact⟨o,rfl,by simpa using h.1⟩
  | succ j=>
   obtain⟨o',e1,e2⟩:=h1 j B (by simpa using hj);exact⟨o',by simpa using e1,by simpa[Nat.add_assoc,Nat.add_comm 1 j] using e2⟩
theorem MZ {As:List Asn}{ds:List Nat}{ok0 ok1:Nat->Prop}{w0 w1:World}{a:Act}{k:Env->Prop}:∀ {js:List Nat} {e:Env},Given s m0 ok0 w0 As ds ok1 w1 js e k->Sat N e a ->
  (∀ j∈js,∀ A d,As[j]?=some A->ds[j]?=some d->Late s m0 ok0 w0 A.on (a.tmps.getD d undef) ok1 w1)->∃ e',k e'/\Sat N e' a
 | [],e,h,ha,_=>⟨e,h,ha⟩
 | j::js,e,h,ha,hl=>by
  unfold Given at h;split at h
  ·rename_i x d hA hd;have hx:a.tmps.getD d undef=x:=by
    obtain⟨_,_,h1,_⟩:=hl j sm _ d hA hd;exact h1
   refine MZ h ⟨ha.size,ha.defers,fun t v ht=>?_⟩ (fun i hi=>hl i (by simp[hi]));unfold lk at ht;by_cases htd:d=t
   ·subst htd;simp at ht;simp[<- ht,<- hx,Array.getD_eq_getD_getElem?]
   ·simp[bE htd] at ht;exact ha.env t v ht
  ·rename_i A d hA hd;refine MZ (h (a.tmps.getD d undef) (hl j sm _ d hA hd)) ⟨ha.size,ha.defers,fun t v ht=>?_⟩ (fun i hi=>hl i (by simp[hi]));unfold lk at ht;by_cases htd:d=t
   ·subst htd;simp at ht;simp[<- ht,Array.getD_eq_getD_getElem?]
   ·simp[bE htd] at ht;exact ha.env t v ht
  ·exact h.elim
theorem XI {o:Oper}{a:Act}{K:Act->World->Prop}(h:o.wp P a w K Q):o.wp P a w (fun a' w'=>K a' w'/\((∃ v,a'=a.put o.dst v)\/a'.defers≠[])) Q:=by
 unfold Oper.wp at *;generalize hr:(execOp a.eval o).run P w=r at *;cases r with
 | ok n w'=>
  cases n <;> simp only[Oper.upon] at h ⊢
  case value v=>exact⟨h,.inl ⟨v,rfl⟩⟩
  case skip=>exact⟨h,.inl ⟨_,rfl⟩⟩
  case defer d=>exact⟨h,.inr (by cases o.dst <;> simp[Act.put])⟩
  case enter f args=>exact Calls.mono h (fun x w'' hx=>by cases x <;> first|exact⟨hx,.inl ⟨_,rfl⟩⟩|exact hx)
  case row row args=>exact Rows.mono h (fun v w'' hx=>⟨hx,.inl ⟨v,rfl⟩⟩)
 | halt x w'=>cases x <;> simp only[Oper.upon] at h ⊢ <;> exact h
theorem Su {o:Oper}{a:Act}{K K':Act->World->Prop}(h:o.wp P a w K (Exit.then K' Q)):o.wp P a w K Q:=by
 unfold Oper.wp at *;generalize hr:(execOp a.eval o).run P w=r at *;cases r with
 | ok n w'=>
  cases n <;> simp only[Oper.upon] at h ⊢
  case enter f args=>exact Calls.mono h (fun x w'' hx=>by cases x <;> exact hx)
  all_goals exact h
 | halt x w'=>cases x <;> simp only[Oper.upon] at h ⊢ <;> exact h
theorem WL.run {ops:Array Oper}{l:List Oper}(h:WL P N ops Q l e w){a:Act}(ha:Sat N e a):wpList P ops Q l a w:=by
 unfold WL at h;exact h a ha
theorem Mq {p p':Nat->Bool}{i:Nat}(hp:p i=true)(hp':p' i=false):∀ {L:List Nat},i∈L->(∀ j∈L,p' j=true->p j=true)->L.countP p'+1<=L.countP p
 | [],h,_=>by simp at h
 | j::L,h,hs=>by
  have hle:L.countP p'<=L.countP p:=List.countP_mono_left fun x hx h=>hs x (by simp[hx]) h;by_cases hj:j=i
  ·subst hj;simp[hp,hp'];exact hle
  ·have h1:=Mq hp hp' (L:=L) (by simpa[Ne.symm hj] using h) (fun x hx=>hs x (by simp[hx]));have h2:=hs j sm;simp only[List.countP_cons];cases h3:p' j
   ·simp;omega
   ·simp[h2 h3];omega
def left (n:Nat)(listed:Array Bool):Nat:=(List.range n).countP fun j=>!listed.getD j true
theorem Gc {n i:Nat}{listed:Array Bool}(hs:listed.size=n)(hi:i<n)(hl:listed.getD i true=false):left n (listed.setIfInBounds i true)+1<=left n listed:=by
 refine Mq (i:=i) (by simpa using hl) ?_ (by simpa using hi) fun j hj h=>?_
 ·simp[Array.getD,hs,hi]
 ·by_cases hji:i=j
  ·subst hji;simpa using hl
  ·simpa[Array.getD_eq_getD_getElem?,Array.getElem?_setIfInBounds_ne hji] using h
theorem xZ {listed:Array Bool}{i j:Nat}(hi:i<listed.size):(listed.setIfInBounds i true).getD j true=if i=j then true else listed.getD j true:=by
 by_cases h:i=j
 ·subst h;simp[Array.getD,hi]
 ·simp[Array.getD_eq_getD_getElem?,Array.getElem?_setIfInBounds_ne h,h]
structure Chk (N:Nat)(l:List Oper)(m:Nat)(ds:List Nat):Prop where
 le:m<=l.length
 dst:∀ i,i<m->∃ o d,l[i]?=some o/\o.dst=some d/\ds[i]?=some d
 lt:∀ d∈ds,d<N
 nodup:∀ (i j d:Nat),ds[i]?=some d->ds[j]?=some d->i=j
 back:∀ i o,l[i]?=some o->∀ x∈o.after,Region.binds .any x=true->x.on<i
 tail:∀ i j,m<=i->i<l.length->j<i->NK l i j=true
theorem Chk.of {l:List Oper}{m:Nat}{ds:List Nat}(h:VZ N l m ds=true):Chk N l m ds:=by
 unfold VZ at h;simp only[Bool.and_eq_true] at h;obtain⟨⟨⟨⟨⟨h1,h2⟩,h3⟩,h4⟩,h5⟩,h7⟩:=h;have h1:=nlb h1;have h2:(List.range m).map (sW l)=ds.map some:=by simpa using h2
 have hlen:ds.length=m:=by simpa using (congrArg List.length h2).symm
 have hd:∀ i,i<m->∃ o d,l[i]?=some o/\o.dst=some d/\ds[i]?=some d:=fun i hi=>by
  have h:=congrArg (·[i]?) h2;simp[hi] at h;have hl:i<l.length:=by omega
  refine⟨l[i],ds[i],sm,?_,sm⟩;simp[sW,hl,hlen,hi] at h;exact h
 refine⟨h1,hd,fun d hd=>nlb (List.all_eq_true.1 h3 d hd),?_,?_,?_⟩
 ·intro i j d hi hj;have hi':i<m:=by have:=(List.getElem?_eq_some_iff.1 hi).1;omega
  have hj':j<m:=by have:=(List.getElem?_eq_some_iff.1 hj).1;omega
  have h:=List.all_eq_true.1 (List.all_eq_true.1 h4 i (by simpa using hi')) j (by simpa using hj');simp[hi,hj] at h;exact h
 ·intro i o ho x hx hb;have hi:i<l.length:=(List.getElem?_eq_some_iff.1 ho).1;have h:=List.all_eq_true.1 h5 i (by simpa using hi);simp only[ho,Option.map_some,Option.getD_some,Bool.and_eq_true] at h;have h:=List.all_eq_true.1 h.1 x (by simpa using hx);simp[hb] at h;exact h
 ·intro i j hm hi hj;have h:=List.all_eq_true.1 h7 i (by simpa using hi);have hb:Nat.blt i m=false:=by
   cases hb:Nat.blt i m
   ·rfl
   ·have:=nlb hb;omega
  simp only[hb,Bool.false_or] at h;exact List.all_eq_true.1 h j (by simpa using hj)
theorem IA {l:List Oper}{i j:Nat}{listed:Array Bool}(hr:i∈Region.ready .any l.toArray listed)(hd:jN l i j=true):listed.getD j false=true:=by
 obtain⟨_,o,ho,h⟩:=mem_ready.1 hr;have ho:l[i]?=some o:=by simpa using ho
 simp only[jN,ho,Option.map_some,Option.getD_some,List.any_eq_true] at hd;obtain⟨x,hx,hb⟩:=hd;simp only[Bool.and_eq_true] at hb;have:=h x (by simpa using hx) hb.1
 rwa [Nat.eq_of_beq_eq_true hb.2] at this
theorem pX {listed:Array Bool}{j:Nat}(hj:j<listed.size)(b c:Bool):listed.getD j b=listed.getD j c:=by simp[Array.getD,hj]
theorem closed {l:List Oper}{i:Nat}{listed:Array Bool}(hsz:listed.size=l.length)(hi:i∈Region.ready .any l.toArray listed)(hcl:∀ k j,k<l.length->listed.getD k true=true->jN l k j=true->listed.getD j true=true)
  (hin:i<l.length) (h2:∀ j,j<i->NK l i j=true):∀ (n j:Nat),i-j<=n->j<i->listed.getD j true=true
 | 0,j,h,hj=>by omega
 | n+1,j,h,hj=>by
  have hd:=h2 j hj;unfold NK at hd;rw[Bool.or_eq_true] at hd;rcases hd with hd|hd
  ·rw[pX om true false];exact IA hi hd
  ·obtain⟨k,hk,hk2⟩:=List.any_eq_true.1 hd;simp only[Bool.and_eq_true] at hk2;have hki:k<i:=by simpa using hk
   have hjk:j<k:=nlb hk2.1;exact hcl k j om (closed hsz hi hcl hin h2 n k om hki) hk2.2
theorem XK {l:List Oper}{m:Nat}{ds:List Nat}(hc:Chk N l m ds):∀ (fuel t:Nat) (listed:Array Bool) (a:Act) (w:World),listed.size=l.length->(∀ j,j<l.length->listed.getD j true=decide (j<t))->m<=t->t<=l.length->l.length-t<=fuel ->
  wpList P l.toArray Q (l.drop t) a w->wpAny P .any l.toArray Q fuel listed a w
 | fuel,t,listed,a,w,hsz,hl,hm,ht,hf,h=>by
  have only:∀ i∈Region.ready .any l.toArray listed,i=t:=fun i hi=>by
   obtain⟨h0,o,ho,_⟩:=mem_ready.1 hi;have hin:i<l.length:=by have:=(Array.getElem?_eq_some_iff.1 ho).1;simpa using this
   rw[hl i hin] at h0;have hti:t<=i:=by simpa using h0
   rcases Nat.lt_or_ge t i with hlt|hge
   ·have hcon:=closed hsz hi (fun k j hk hkl hd=>by
     rw[hl k hk] at hkl;have hkt:k<t:=by simpa using hkl
     simp only[jN,List.getElem?_eq_getElem hk,Option.map_some,Option.getD_some,List.any_eq_true] at hd;obtain⟨x,hx,hb⟩:=hd;simp only[Bool.and_eq_true] at hb;have hb1:=hc.back k l[k] (List.getElem?_eq_getElem hk) x (by simpa using hx) hb.1;have hb2:=Nat.eq_of_beq_eq_true hb.2;rw[hl j om];simp;omega) hin (fun j hj=>hc.tail i j om hin hj) i t om hlt
    rw[hl t om] at hcon;simp at hcon
   ·omega
  have isin:t<l.length->t∈Region.ready .any l.toArray listed:=fun hlt=>by
   refine mem_ready.2 ⟨by rw[hl t hlt];simp,l[t],by simp[hlt],fun x hx hb=>?_⟩;have hb1:=hc.back t l[t] (List.getElem?_eq_getElem hlt) x hx hb;rw[pX om false true,hl _ om];simpa using hb1
  rcases Nat.lt_or_ge t l.length with hlt|hge
  ·cases fuel with
   | zero=>omega
   | succ fuel=>
    refine⟨fun hr=>(by have:=isin hlt;rw[hr] at this;simp at this),fun i hi=>?_⟩;have hit:=only i hi;subst hit;rw[List.drop_eq_getElem_cons hlt] at h;unfold wpList at h;have next:∀ a' w',wpList P l.toArray Q (l.drop (i+1)) a' w'->wpAny P .any l.toArray Q fuel (listed.setIfInBounds i true) a' w':=fun a' w' h'=>
     XK hc fuel (i+1) _ a' w' (by simpa using hsz) (fun j hj=>by
      rw[xZ om];by_cases h:i=j
      ·simp[h]
      ·simp[h,hl j hj];omega) om om om h'
    simp only[wpOp,List.getElem?_toArray,List.getElem?_eq_getElem hlt];split
    ·rename_i hw;simp only[hw,if_true] at h;exact h.imp (Oper.wp_mono next) id
    ·rename_i hw;simp only[hw] at h;exact next _ _ h
  ·have hnil:Region.ready .any l.toArray listed=[]:=by
    cases hr:Region.ready .any l.toArray listed with
    | nil=>rfl
    | cons i rs=>
     have hi:i∈Region.ready .any l.toArray listed:=by rw[hr];simp
     have hit:=only i hi;obtain⟨_,o,ho,_⟩:=mem_ready.1 hi;have:i<l.length:=by have:=(Array.getElem?_eq_some_iff.1 ho).1;simpa using this
     omega
   have hn:Q .normal a w:=by simpa[List.drop_eq_nil_of_le hge,wpList] using h
   cases fuel with
   | zero=>exact⟨hnil,hn⟩
   | succ fuel=>exact⟨fun _=>hn,fun i hi=>by rw[hnil] at hi;simp at hi⟩
theorem FB {l:List Oper}{listed:Array Bool}(hsz:listed.size=l.length)(hcl:∀ k j,k<l.length->listed.getD k true=true->jN l k j=true->listed.getD j true=true):∀ {n j i:Nat},j<l.length->listed.getD j true=true->bW l n j i=true->listed.getD i true=true
 | 0,j,i,hj,hl,h=>hcl j i hj hl h
 | n+1,j,i,hj,hl,h=>by
  unfold bW at h;rw[Bool.or_eq_true] at h;rcases h with h|h
  ·exact hcl j i hj hl h
  ·obtain⟨k,hk,hk2⟩:=List.any_eq_true.1 h;simp only[Bool.and_eq_true] at hk2;have hkj:k<j:=by simpa using hk
   exact FB hsz hcl om (hcl j k hj hl hk2.1) hk2.2
theorem XL {l:List Oper}{m:Nat}{ds ws:List Nat}{AA:List Asn}{ok0:Nat->Prop}{w0:World}(hc:Chk N l m ds)(hA:AA.length=m)(hds:ds.length=m)(hfr:∀ j d,ds[j]?=some d->j∈ws\/lk e d=none)
  (ho:Obls P N Q e s m0 ok0 w0 l m ds ws AA 0 l AA):∀ (fuel:Nat) (listed:Array Bool) (a:Act) (ok1:Nat->Prop) (w1:World),listed.size=l.length->(∀ j,m<=j->j<l.length->listed.getD j true=false) ->
  (∀ k j,k<l.length->listed.getD k true=true->jN l k j=true->listed.getD j true=true)->left l.length listed<=fuel ->
  a.tmps.size=N->a.defers=[]->(∀ t v,lk e t=some v->(∀ j,j<m->listed.getD j true=true->ds[j]?≠some t)->a.tmps.getD t undef=v)->St s ok1 m0 w1->Ex ok0 w0 ok1 w1->(∀ j,j<m->listed.getD j true=true->∀ A d,AA[j]?=some A->ds[j]?=some d->Late s m0 ok0 w0 A.on (a.tmps.getD d undef) ok1 w1) ->
  wpAny P .any l.toArray Q fuel listed a w1
 | fuel,listed,a,ok1,w1,hsz,htl,hcl,hf,ha1,ha2,ha3,hS,hE,hL=>by
  obtain⟨hbody,hrest⟩:=Obls.at_ ho;have hml:=hc.le;by_cases hall:∀ j,j<m->listed.getD j true=true
  ·obtain⟨e',hk,ha'⟩:=MZ (hrest ok1 w1 hS hE) ⟨ha1,ha2,fun t v ht=>ha3 t v (xQ ht).1 (fun j hj _ hd=>by
    rcases hfr j t hd with h|h
    ·exact(xQ ht).2 (List.mem_map.2 ⟨j,h,by simp[hd]⟩)
    ·rw[(xQ ht).1] at h;simp at h)⟩ (fun j hj A d h1 h2=>hL j (by simpa using hj) (hall j (by simpa using hj)) A d h1 h2)
   rw[hA] at hk;refine XK hc fuel m listed a w1 hsz (fun j hj=>?_) (Nat.le_refl _) hml ?_ (hk.run ha')
   ·by_cases h:j<m
    ·simp[hall j h,h]
    ·simp[htl j om hj,h]
   ·refine Nat.le_trans ?_ hf;unfold left;have e1:List.range l.length=List.range m++List.range' m (l.length-m):=by
     have h:=List.range'_append_1 (s:=0) (m:=m) (n:=l.length-m);rw[List.range_eq_range',List.range_eq_range',show l.length=m+(l.length-m) by omega,<- h];simp
    rw[e1,List.countP_append];have e2:(List.range' m (l.length-m)).countP (fun j=>!listed.getD j true)=l.length-m:=by
     rw[List.countP_eq_length.2 (fun j hj=>by
      have:=List.mem_range'_1.1 hj;rw[htl j om om];rfl)]
     simp
    omega
  ·have hex:∃ j,j<m/\listed.getD j true=false:=by
    obtain⟨j,hj⟩:=Classical.not_forall.1 hall;obtain⟨hj1,hj2⟩:=Classical.not_imp.1 hj;exact⟨j,hj1,by simpa using hj2⟩
   have hleast:∃ t,(t<m/\listed.getD t true=false)/\∀ i,i<t->listed.getD i true=true:=by
    obtain⟨j,hj⟩:=hex
    induction j using Nat.strongRecOn with
    | ind j ih=>
     by_cases h:∃ i,i<j/\listed.getD i true=false
     ·obtain⟨i,h1,h2⟩:=h;exact ih i h1 ⟨om,h2⟩
     ·exact⟨j,hj,fun i hi=>by
       cases hh:listed.getD i true
       ·exact(h ⟨i,hi,hh⟩).elim
       ·rfl⟩
   obtain⟨t,⟨ht1,ht2⟩,ht3⟩:=hleast;have htr:t∈Region.ready .any l.toArray listed:=by
    refine mem_ready.2 ⟨ht2,l[t],sm,fun x hx hb=>?_⟩;have hb1:=hc.back t l[t] (List.getElem?_eq_getElem om) x hx hb;rw[pX om false true];exact ht3 _ hb1
   have hpos:0<left l.length listed:=by
    unfold left;exact List.countP_pos_iff.2 ⟨t,by simp;omega,by rw[ht2];rfl⟩
   cases fuel with
   | zero=>omega
   | succ fuel=>
    refine⟨fun hr=>(by rw[hr] at htr;simp at htr),fun i hi=>?_⟩;obtain⟨hi0,o,hio,hdeps⟩:=mem_ready.1 hi;have hio:l[i]?=some o:=by simpa using hio
    have hin:i<l.length:=(List.getElem?_eq_some_iff.1 hio).1;have him:i<m:=by
     rcases Nat.lt_or_ge i m with h|h
     ·exact h
     ·have:=closed hsz hi hcl hin (fun j hj=>hc.tail i j h hin hj) i t om om;rw[ht2] at this;simp at this
    obtain⟨o',d,ho',hdst,hdi⟩:=hc.dst i him;rw[hio] at ho';obtain rfl:o=o':=by simpa using ho'
    have hdm:d∈ds:=List.mem_of_getElem? hdi;obtain⟨o',ho',hob⟩:=hbody i AA[i] (List.getElem?_eq_getElem om);rw[hio] at ho';obtain rfl:o=o':=by simpa using ho'
    have hg:=hob ok1 w1 hS hE;rw[Nat.zero_add] at hg;obtain⟨e',hk,ha'⟩:=MZ hg ⟨ha1,ha2,fun t v ht=>ha3 t v (xQ ht).1 (fun j hj hjl hd=>by
     rcases hfr j t hd with h|h
     ·rcases Pb (l:=l) (ds:=ds) (i:=i) h with h|rfl|h
      ·exact(xQ ht).2 (by simpa[hd] using h)
      ·rw[hi0] at hjl;simp at hjl
      ·have:=FB hsz hcl om hjl h;rw[hi0] at this;simp at this
     ·rw[(xQ ht).1] at h;simp at h)⟩ (fun j hj A d' h1 h2=>by
     have hjm:j<m:=by have:=KA hj;omega
     have hdj:=(KA hj).2.2.2;refine hL j hjm ?_ A d' h1 h2;rw[pX om true false];exact IA hi hdj)
    have hwp:=hk.run ha';unfold wpList at hwp;have next:∀ a' w',Got ok1 w1 s m0 d AA[i] a' w'->((∃ v,a'=a.put (some d) v)\/a'.defers≠[])->wpAny P .any l.toArray Q fuel (listed.setIfInBounds i true) a' w':=fun a' w' hG hput=>by
     obtain⟨hdf,v,ok',hv,hAv,hE',hS'⟩:=hG;rcases hput with⟨u,rfl⟩|h
     ·have hput:∀ t,t≠d->(a.put (some d) u).tmps.getD t undef=a.tmps.getD t undef:=fun t ht=>by
       simp[Act.put,Array.getD_eq_getD_getElem?,Array.getElem?_setIfInBounds_ne (Ne.symm ht)]
      refine XL hc hA hds hfr ho fuel _ _ ok' w' (by simpa using hsz) (fun j h1 h2=>?_) (fun k j hk hkl hd=>?_) ?_ (by simpa[Act.put] using ha1) hdf (fun t v ht hno=>?_) hS' (hE.trans hE') (fun j hj hjl A d' h1 h2=>?_)
      ·rw[xZ om,if_neg om];exact htl j h1 h2
      ·rw[xZ om] at hkl ⊢;split
       ·rfl
       ·by_cases hik:i=k
        ·subst hik;have:=IA hi hd;rcases Nat.lt_or_ge j listed.size with h|h
         ·rwa [pX h true false]
         ·simp[Array.getD,Nat.not_lt.2 h]
        ·rw[if_neg hik] at hkl;exact hcl k j hk hkl hd
      ·have:=Gc hsz hin hi0;omega
      ·have htd:t≠d:=by
        rintro rfl;exact hno i him (by rw[xZ om,if_pos rfl]) hdi
       rw[hput t htd];exact ha3 t v ht (fun j hj hjl=>hno j hj (by
        rw[xZ om];split
        ·rfl
        ·exact hjl))
      ·by_cases hij:i=j
       ·subst hij;rw[hdi] at h2;obtain rfl:d=d':=by simpa using h2
        rw[List.getElem?_eq_getElem om] at h1;obtain rfl:AA[i]=A:=by simpa using h1
        exact⟨ok',w',hv ▸ hAv,hS',hE.trans hE',Ex.refl _ _⟩
       ·have hne:d≠d':=fun h=>hij (hc.nodup i j d hdi (h ▸ h2));rw[hput d' (Ne.symm hne)];rw[xZ om,if_neg hij] at hjl;exact(hL j hj hjl A d' h1 h2).ex hE'
     ·exact absurd hdf h
    simp only[wpOp,List.getElem?_toArray,hio];rw[hdst] at hwp;split
    ·rename_i hw;simp only[hw,if_true] at hwp;rcases hwp with hwp|⟨h1,h2⟩
     ·left
      have:=XI (Su hwp);refine Oper.wp_mono (fun a' w' h=>?_) this;rw[hdst] at h;exact next a' w' h.1 h.2
     ·exact .inr ⟨h1,h2⟩
    ·rename_i hw;simp only[hw] at hwp;rw[hdst];exact next _ _ hwp (.inl ⟨_,rfl⟩)
theorem zH {id:Nat}{l:List Oper}(m:Nat)(ds ws:List Nat)(AA:List Asn)(hm:P.follows .mixedOrders=true)(hS:St s ok m0 w)(hc:VZ N l m ds=true)(hA:Nat.beq AA.length m=true)(hds:Nat.beq ds.length m=true)
  (hfr:(List.range m).all (fun j=>xW ws j || (lk e (ds.getD j 0)).isNone)=true) (ho:Obls P N Q e s m0 ok w l m ds ws AA 0 l AA):WC P N (.region id l.toArray true) Q e w:=by
 unfold WC;intro a ha;refine wp_region_any hm ?_;have e1:Ext w { w with drawn:=w.drawn+1 }:=Ext.drew w;refine XL (Chk.of hc) (Nat.eq_of_beq_eq_true hA) (Nat.eq_of_beq_eq_true hds) (fun j d hd=>?_) ho _ _ a ok _ sm (fun j _ hj=>by simp[Array.getD,hj]) (fun k j hk h=>?_) ?_ ha.size ha.defers (fun t v ht _=>ha.env t v ht) (hS.ext e1) (Ex.of_ext e1 ok) (fun j hj h=>?_)
 ·have hj:j<m:=by have:=(List.getElem?_eq_some_iff.1 hd).1;have:=Nat.eq_of_beq_eq_true hds;omega
  have h:=List.all_eq_true.1 hfr j (by simpa using hj);rw[Bool.or_eq_true] at h;rcases h with h|h
  ·rw[Ib] at h;exact .inl (by simpa using h)
  ·exact .inr (by simpa[hd] using h)
 ·simp[Array.getD,hk] at h
 ·unfold left;refine Nat.le_trans List.countP_le_length sm
 ·have:=(Chk.of hc).le;simp[Array.getD,show j<l.length by omega] at h
theorem E8 {ok0 ok1:Nat->Prop}{w0 w1:World}{As:List Asn}{ds js:List Nat}{k:Env->Prop}(h:js=[])(hk:k e):Given s m0 ok0 w0 As ds ok1 w1 js e k:=by
 subst h;exact hk
theorem F3 {ok0 ok1:Nat->Prop}{w0 w1:World}{As:List Asn}{ds js js':List Nat}{k:Env->Prop}{j d:Nat}{x:Value}(h:js=j::js')(hA:As[j]?=some (.eqv x))(hd:ds[j]?=some d)
  (hk:Given s m0 ok0 w0 As ds ok1 w1 js' ((d,x)::e) k):Given s m0 ok0 w0 As ds ok1 w1 js e k:=by
 subst h;unfold Given;simp only[hA,hd];exact hk
theorem Ij {ok0 ok1:Nat->Prop}{w0 w1:World}{As:List Asn}{ds js js':List Nat}{k:Env->Prop}{j d:Nat}{A:Value->(Nat->Prop)->World->Prop}(h:js=j::js')(hA:As[j]?=some (.is A))(hd:ds[j]?=some d)
  (hk:∀ v,Late s m0 ok0 w0 A v ok1 w1->Given s m0 ok0 w0 As ds ok1 w1 js' ((d,v)::e) k):Given s m0 ok0 w0 As ds ok1 w1 js e k:=by
 subst h;unfold Given;simp only[hA,hd];exact hk
theorem G9 {ok1:Nat->Prop}{w1:World}{d:Nat}{x:Value}(hS:St s ok1 m0 w1)(hd:lk e d=some x):WE N .normal (Exit.then (Got ok1 w1 s m0 d (.eqv x)) Q) e w1:=
 PU hd hS (Ex.refl _ _) rfl
theorem G8 {ok1 ok':Nat->Prop}{w1 w':World}{d:Nat}{x:Value}(hS:St s ok' m0 w')(hE:Ex ok1 w1 ok' w')(hd:lk e d=some x):WE N .normal (Exit.then (Got ok1 w1 s m0 d (.eqv x)) Q) e w':=
 PU hd hS hE rfl
theorem G7 {l:List Oper}{m:Nat}{ds ws:List Nat}{AA As:List Asn}{ok0:Nat->Prop}{w0:World}{i:Nat}{o:Oper}{os:List Oper}{A:Asn}
  (h1:∀ ok1 w1,St s ok1 m0 w1->Ex ok0 w0 ok1 w1->Given s m0 ok0 w0 AA ds ok1 w1 (QO l m i o) (wC (yQ l ds ws i) e) fun e'=>WL P N l.toArray (Exit.then (Got ok1 w1 s m0 ((o.dst).getD 0) A) Q) [o] e' w1)
  (h2:Obls P N Q e s m0 ok0 w0 l m ds ws AA (i+1) os As):Obls P N Q e s m0 ok0 w0 l m ds ws AA i (o::os) (A::As):=⟨h1,h2⟩
theorem AY {l:List Oper}{m:Nat}{ds ws:List Nat}{AA:List Asn}{ok0:Nat->Prop}{w0:World}{i:Nat}{os:List Oper}
  (h:∀ ok1 w1,St s ok1 m0 w1->Ex ok0 w0 ok1 w1->Given s m0 ok0 w0 AA ds ok1 w1 (List.range m) (wC (ws.map fun j=>ds.getD j 0) e) fun e'=>WL P N l.toArray Q os e' w1):Obls P N Q e s m0 ok0 w0 l m ds ws AA i os []:=by
 cases os <;> exact h
end

section
variable {P:Program} {N:Nat} {ops:Array Oper} {Q:Exit->Act->World->Prop} {rest:List Oper} {e:Env} {w w':World} {d:Nat} {ty:TypeId} {pos:String} {af:Array Edge} {s:Base} {ok:Nat->Prop} {m:List Piece}
theorem Tp {x y:Operand}{ts:Array TypeId}{k k':IntKind}{a b:Int}(hx:ev e x=some (.int k a))(hy:ev e y=some (.int k' b))(hd:Nat.blt d N=true)
  (h:WL P N ops Q rest ((d,.int k (min a b))::e) w):WL P N ops Q (⟨some d,.call ⟨.builtin .min,#[x,y],ts⟩,ty,pos,af,none⟩::rest) e w:=
 O3 (fun A hA=>by
  have hm:(if b<a then b else a)=min a b:=by
   split <;> omega
  simp[execOp,resolve,hA.eval hx,hA.eval hy,invoke,builtin,Builtin.min_,Builtin.min2,hm]) hd h
theorem Tq {x y:Operand}{ts:Array TypeId}{k k':IntKind}{a b:Int}(hx:ev e x=some (.int k a))(hy:ev e y=some (.int k' b))(hd:Nat.blt d N=true)
  (h:WL P N ops Q rest ((d,.int k (max a b))::e) w):WL P N ops Q (⟨some d,.call ⟨.builtin .max,#[x,y],ts⟩,ty,pos,af,none⟩::rest) e w:=
 O3 (fun A hA=>by
  have hm:(if a<b then b else a)=max a b:=by
   split <;> omega
  simp[execOp,resolve,hA.eval hx,hA.eval hy,invoke,builtin,Builtin.max_,Builtin.max2,hm]) hd h
theorem Sat.also {a:Act}{t:Nat}{v:Value}(ha:Sat N e a)(hv:lk e t=some v):Sat N ((t,v)::e) a:=by
 refine⟨ha.size,ha.defers,fun x u hx=>?_⟩;unfold lk at hx;by_cases h:t=x
 ·subst h;simp at hx;exact ha.env t u (by rw[hv,hx])
 ·simp[bE h] at hx;exact ha.env x u hx
theorem Ue {op:Op}{dst:Nat}{g:Nat}{b c:Bool}(t:Nat)(hc:lk e t=some (.bool c))
  (h1:c=b->WL P N ops Q (⟨some dst,op,ty,pos,af,some (g,b)⟩::rest) ((t,.bool b)::e) w) (h2:c=!b->WL P N ops Q (⟨some dst,op,ty,pos,af,some (g,b)⟩::rest) ((t,.bool (!b))::e) w) :
  WL P N ops Q (⟨some dst,op,ty,pos,af,some (g,b)⟩::rest) e w:=by
 unfold WL at *;intro a ha;by_cases h:c=b
 ·exact h1 h a (ha.also (by rw[hc,h]))
 ·have h':c=!b:=by cases c <;> cases b <;> simp_all
  exact h2 h' a (ha.also (by rw[hc,h']))
theorem Tf {op:Op}{dst:Option Tmp}{g:Nat}{b:Bool}{t:Nat}(ht:(ops[g]?).bind (·.dst)=some t)(hb:lk e t=some (.bool b))(h:WL P N ops Q (⟨dst,op,ty,pos,af,none⟩::rest) e w) :
  WL P N ops Q (⟨dst,op,ty,pos,af,some (g,b)⟩::rest) e w:=by
 unfold WL at h;exact Tg ht hb h
theorem DU {l:List Oper}(t:Nat){v v':Value}(hv:lk e t=some v)(hvv:v=v')(h:WL P N ops Q l ((t,v')::e) w):WL P N ops Q l e w:=by
 subst hvv;unfold WL at *;intro a ha;exact h a (ha.also hv)
theorem YF {c:Code}(t:Nat){v v':Value}(hv:lk e t=some v)(hvv:v=v')(h:WC P N c Q ((t,v')::e) w):WC P N c Q e w:=by
 subst hvv;unfold WC at *;intro a ha;exact h a (ha.also hv)
theorem tO (n:Nat):Value.int .u8 (IntKind.u8.wrap (n:Int))=j6 (UInt8.ofNat n):=by
 unfold j6;rw[IntKind.wrap_u8];congr 1
abbrev Now:Nat->Prop:=fun _=>True
theorem St.rowSl (hS:St s ok m w)(i:Nat){v:Value}{E:TypeId}{k:Nat}{vs:List Value}(hm:m[i]?=some (.row v E k vs)):Sl Now w E k v vs:=by
 obtain⟨hat,hg,hk⟩:=hS.at_ _ (List.mem_of_getElem? hm);refine⟨hk,hg,?_⟩;rcases hat.2 with⟨rfl,hn⟩|⟨g,cap,x9,rfl,_,hh,hnc,hcm,hcs,htk⟩
 ·have:vs=[]:=List.eq_nil_of_length_eq_zero hn;subst this;exact⟨none,0,rfl,Nat.le_refl _,by simp[maxLen],sm⟩
 ·refine⟨some ⟨g,0,none⟩,cap,rfl,hnc,hcm,fun _=>⟨g,0,rfl,trivial,rfl,x9,E,_,hh,?_⟩⟩;rw[List.drop_zero,nA hk];exact htk
theorem Sl.shape {ok:Nat->Prop}{E:TypeId}{k:Nat}{v:Value}{vs:List Value}(h:Sl ok w E k v vs):∃ A c,v=.slice A vs.length c:=by
 obtain⟨_,_,A,c,hv,_⟩:=h;exact⟨A,c,hv⟩
def rM:BinOp->Bool->Option Bool
 | .eql,b=>some b
 | .neq,b=>some (!b)
 | _,_=>none
theorem xC {op:BinOp}{T yT:TypeId}{x y:Operand}{a b:Value}{r c:Bool}(hx:ev e x=some a)(hy:ev e y=some b)(hne:∀ k n,a≠.int k n)(hne2:∀ s,a≠.string s)(hne3:∀ k n,a≠.float k n)(hne4:∀ k m n,a≠.complex k m n)
  (hg:(eqGuard op T x y a b).run P w=.ok () w) (hr:(Op.equal T a b).run P w=.ok r w) (hc:rM op r=some c):∀ A,Sat N e A->(execOp A.eval ⟨some d,.binOp op T x y yT,ty,pos,af,none⟩).run P w=.ok (.value (.bool c)) w:=fun A hA=>by
 have hb:(binOp op T a b).run P w=.ok (.bool c) w:=by
  cases op <;> (first|(cases hc;done)|skip)
  ·injection hc with hc
   subst hc;cases a <;> first|exact absurd rfl (hne _ _)|exact absurd rfl (hne2 _)|exact absurd rfl (hne3 _ _)|exact absurd rfl (hne4 _ _ _)|(simp[binOp,hr])
  ·injection hc with hc
   subst hc;cases a <;> first|exact absurd rfl (hne _ _)|exact absurd rfl (hne2 _)|exact absurd rfl (hne3 _ _)|exact absurd rfl (hne4 _ _ _)|(simp[binOp,hr])
 simp[execOp,hA.eval hx,hA.eval hy,hg,hb]
theorem Tc {op:BinOp}{T yT E:TypeId}[t:TyP P T E]{x y:Operand}{p:Option Addr}{c:Bool}(hx:ev e x=some (.pointer p))(hy:ev e y=some (.pointer none))(hc:rM op p.isNone=some c)(hd:Nat.blt d N=true)
  (h:WL P N ops Q rest ((d,.bool c)::e) w):WL P N ops Q (⟨some d,.binOp op T x y yT,ty,pos,af,none⟩::rest) e w:=
 O3 (xC hx hy sm sm sm sm (by unfold eqGuard;cases op <;> rfl) (by
  have h:∀ d:Nat,(Op.equalIn (d+1) T (.pointer p) (.pointer none)).run P w=.ok p.isNone w:=fun d=>by cases p <;> simp[Op.equalIn,run_underlying t.out]
  exact h 9999) hc) hd h
end
end Tw
