/- . -/
import Derived.Lib.ConvBytes
import Derived.Test.YtcdbijbhifhkeaaGreatDoorV05
namespace Av
open Go Go.RowKit Tw
section
variable {m m':List Piece}{args:List AV}{f:FuncId}{P:Program}{v:AV}{dst:Option Nat}{ts:Array TypeId}{xs:List Operand}{cs:List Value}{x:Operand}
def Back (s:Base)(K:AV->List Piece->Prop)(x:Ending)(w':World):Prop:=∃ v m' ok' cv,K v m'/\x=.returned cv/\RV ok' w' v cv/\St s ok' m' w'
def Spec (P:Program)(gl:List (Nat × AV))(f:FuncId)(args:List AV)(m:List Piece)(K:AV->List Piece->Prop):Prop:=
 ∀ ok w cargs,St (X3 gl m ok w) ok m w->RVs ok w args cargs->Calls P f cargs.toArray w (Back (X3 gl m ok w) K)
abbrev SpecE (P:Program)(gl:List (Nat × AV))(f:FuncId)(args:List AV)(out:AV):Prop:=Spec P gl f args [] λv m'=>v=out/\m'=[]
theorem Spec.mk {gl:List (Nat × AV)}{K:AV->List Piece->Prop}(h:∀ ok w cargs,St (X3 gl m ok w) ok m w->RVs ok w args cargs->Calls P f cargs.toArray w (Back (X3 gl m ok w) K)):Spec P gl f args m K:=h
theorem Spec.run {gl:List (Nat × AV)}{K:AV->List Piece->Prop}(h:Spec P gl f args m K):∀ ok w cargs,St (X3 gl m ok w) ok m w->RVs ok w args cargs->Calls P f cargs.toArray w (Back (X3 gl m ok w) K):=h
theorem Spec.mono {gl:List (Nat × AV)}{K K':AV->List Piece->Prop}(h:Spec P gl f args m K)(hk:∀ v m',K v m'->K' v m'):Spec P gl f args m K':=λok w c hS hv=>
 Calls.mono (h ok w c hS hv) λ_ _ ⟨v,m',ok',cv,g,r⟩=>⟨v,m',ok',cv,hk v m' g,r⟩
section
variable {P:Program} {N:Nat} {ops:Array Oper} {Q:Exit->Act->World->Prop} {rest:List Oper} {s:Base} {e:Env} {m:List Piece} {d:Nat} {ty:TypeId} {pos:String} {af:Array Edge} {gl:List (Nat × AV)}
def IB:Nat->List AV->Env
 | _,[]=>[]
 | i,v::vs=>(i,v)::IB (i+1) vs
theorem UZ:∀ (vs:List AV) (i t:Nat) (v:AV),lk (IB i vs) t=some v->i<=t/\vs[t-i]?=some v
 | [],i,t,v,h=>by simp[IB,lk] at h
 | u::vs,i,t,v,h=>by
  unfold IB lk at h;by_cases hi:i=t
  ·subst hi;simp at h;simp[h]
  simp[qN hi] at h;obtain⟨h1,h2⟩:=UZ vs (i+1) t v h;refine⟨om,?_⟩;rw[show t-i=(t-(i+1))+1 by omega];simpa using h2
theorem qE {fn:Func}{c:Code}{K:AV->List Piece->Prop}(hf:P.funcs[f]?=some fn)(hb:fn.body=some c)(hN:fn.ntmps=N)(hl':Nat.ble args.length N=true)
  (h:∀ s:Base,s.gl=gl->AC P N c (bodyPost P fn (Back s K)) s (IB 0 args) m):Spec P gl f args m K:=λok w cargs hS hv=>by
 have hl:args.length<=N:=nlb hl';have hcl:=hv.length;refine calls_of_wp hf hb ((h _ rfl).run ok w _ hS ⟨?_,rfl,?_⟩)
 ·simp[hN];omega
 intro t v ht;obtain⟨_,h2⟩:=UZ args 0 t v ht;simp only[Nat.sub_zero] at h2;obtain⟨u,h3,h4⟩:=hv.get h2;have hlt:t<cargs.length:=(List.getElem?_eq_some_iff.1 h3).1;have h5:cargs[t]=u:=(List.getElem?_eq_some_iff.1 h3).2;have h6:=RV.of0 h4;simpa[Array.getElem?_append,hlt,h5] using h6
theorem zc {fn:Func}{c:Code}{K:AV->List Piece->Prop}(hf:P.funcs[f]?=some fn)(hN:fn.ntmps=N)(h:∀ s:Base,s.gl=gl->AC P N c (bodyPost P fn (Back s K)) s (IB 0 args) m)(hb:fn.body=some c:=by exact rfl)(hl':Nat.ble args.length N=true:=by exact rfl):Spec P gl f args m K:=qE hf hb hN hl' h
def Res (P:Program)(N:Nat)(s:Base)(e:Env)(m:List Piece)(r:ResultVar)(v:AV):Prop:=∀ ok w a,St s ok m w->Sat N ok w e a->∃ u,RV0 ok w v u/\(match r with
 | .tmp t=>a.tmps.getD t undef=u
 | .cell x t=>∃ p,a.tmps.getD x undef=.pointer (some p)/\(loadVar t p).run P w=.ok u w)
theorem CV {t:Nat}(h:lk e t=some v)(hn:U8 v=true):Res P N s e m (.tmp t) v:=λ_ _ a _ ha=>⟨_,(ha.env t v h).to0 (by rintro vs rfl;simp[U8] at hn),rfl⟩
theorem RH {x:Nat}{T:TypeId}{a:Bool}{k:Nat}[t:Ty P T a k]{g:Nat}{T0:TypeId}{u:AV}(hx:lk e x=some (ptr g))(hm:Has m (.var g T0 v))(hv:jT a k 8 v 0=some u):Res P N s e m (.cell x T) u:=λok w A hS hA=>by
 obtain⟨cs,hb,hg⟩:=hS.at_ _ hm.mem;obtain⟨x',c,y,e1,e2,e3,e4,e5⟩:=EH hv hg;have hr:=JD (P:=P) t (b:=g) (o:=0) (λj v hv=>by rw[<- e2];exact QA hb e1 j v hv) e4 e3 e5;exact⟨_,e5 ▸ RV0.mk e4,_,RV.lit (hA.env x _ hx),hr⟩
def Ress (P:Program)(N:Nat)(s:Base)(e:Env)(m:List Piece):List ResultVar->List AV->Prop
 | [],vs=>vs=[]
 | r::rs,vs=>∃ u us,vs=u::us/\Res P N s e m r u/\Ress P N s e m rs us
theorem xQ:Ress P N s e m [] []:=rfl
theorem CU {r:ResultVar}{rs:List ResultVar}{vs:List AV}(h:Res P N s e m r v)(k:Ress P N s e m rs vs):Ress P N s e m (r::rs) (v::vs):=⟨v,vs,rfl,h,k⟩
def NG (a:Act):ResultVar->Sem Value
 | .tmp t=>pure (a.tmps.getD t undef)
 | .cell x t=>do loadVar t (<- asAddr (a.tmps.getD x undef))
theorem XT {ok:Ok}{w:World}{a:Act}(hS:St s ok m w)(ha:Sat N ok w e a):∀ {rs:List ResultVar} {vs:List AV},Ress P N s e m rs vs->∃ us:List Value,RVs ok w vs us/\(rs.mapM (NG a)).run P w=.ok us w
 | [],vs,h=>by
  obtain rfl:=(show vs=[] from h);exact⟨[],rfl,sm⟩
 | r::rs,_,⟨v,vs,rfl,h1,h2⟩=>by
  obtain⟨us,g1,g2⟩:=XT hS ha h2;obtain⟨u,f1,f2⟩:=h1 ok w a hS ha;refine⟨u::us,⟨u,us,rfl,f1,g1⟩,?_⟩;rw[List.mapM_cons];cases r with
  | tmp t=>
   simp only at f2;subst f2;simp only[NG,Sem.run_bind,Sem.run_pure,Result.andThen_ok,g2]
  | cell x t=>
   obtain⟨p,f2,f3⟩:=f2;simp only[NG,f2,asAddr,Sem.run_bind,Sem.run_pure,Result.andThen_ok,f3,g2]
def L6:List AV->AV
 | [v]=>v
 | vs=>.tup vs
theorem IK {fn:Func}{K:AV->List Piece->Prop}{rs:List ResultVar}{vs:List AV}{x:Exit}(hr:fn.results=rs.toArray)(h:Ress P N s e m rs vs)(hx:x=.ret\/x=.normal)(hK:K (L6 vs) m')(hm:m'.Sublist m):AE N x (bodyPost P fn (Back s K)) s e m:=AE.mk λok w a hS ha=>by
 obtain⟨us,h1,h2⟩:=XT hS ha h;have hlen:=h1.length;have h3:(results fn a.tmps).run P w=.ok (if hh:us.toArray.size=1 then us.toArray[0] else .tuple us.toArray) w:=by
  have h5:results fn a.tmps=(do let vs <- fn.results.mapM (NG a);pure (if h:vs.size=1 then vs[0] else .tuple vs)):=by
   unfold results;congr 2
  rw[h5,hr,Array.mapM_eq_mapM_toList];simp[h2]
 have h4:RV ok w (L6 vs) (if hh:us.toArray.size=1 then us.toArray[0] else .tuple us.toArray):=by
  match vs,us,h1,hlen with
  | [v],us,⟨u,r,e1,e2,e3⟩,_=>
   obtain rfl:=(show r=[] from e3);subst e1;exact RV.of0 e2
  | [],us,h1,_=>
   obtain rfl:=(show us=[] from h1);exact⟨[],rfl,rfl⟩
  | v1::v2::vs,us,h1,hlen=>
   have:¬ us.toArray.size=1:=by simp[hlen]
   rw[dif_neg this];exact⟨us,rfl,h1⟩
 rcases hx with rfl|rfl <;> exact⟨ha.defers,_,h3,_,m',ok,_,hK,rfl,h4,hS.less hm⟩
theorem Eu {op:Op}{m1 fr:List Piece}{K:AV->List Piece->Prop}(hc:Spec P s.gl f args m1 K)(hp:m.Perm (m1++fr))
  (hrun:∀ ok w a,Sat N ok w e a->∃ cs,RVs ok w args cs/\(execOp a.eval ⟨dst,op,ty,pos,af,none⟩).run P w=.ok (.enter f cs.toArray) w)
  (h:∀ v m1',K v m1'->∀ ok w a u,RV ok w v u->St s ok (m1'++fr) w->Sat N ok w e a->wpList P ops Q rest (a.put dst u) w):AL P N ops Q s (⟨dst,op,ty,pos,af,none⟩::rest) e m:=AL.mk λok w a hS ha=>
 wpList_plain rfl λK' hK=>by
  obtain⟨cs,h1,h2⟩:=hrun ok w a ha;unfold Oper.wp;rw[h2];have hS':=hS.perm hp.symm;exact Calls.mono (hc.run ok w cs hS'.lend h1) λx w' hx=>by
   obtain⟨v,m',ok',cv,g1,rfl,g2,g3⟩:=hx;exact hK _ _ (h v m' g1 ok' w' a cv g2 (hS'.back g3) (ha.stp g3.stp))
theorem a9m [hf:FnB P f](hx:evs e xs=some args)(hn:args.all U8=true):∀ ok w a,Sat N ok w e a->∃ cs,RVs ok w args cs/\(execOp a.eval ⟨dst,.call ⟨.value (.func f),xs.toArray,ts⟩,ty,pos,af,none⟩).run P w=.ok (.enter f cs.toArray) w:=λok w a ha=>by
 refine⟨_,ha.evals hx hn,?_⟩;have hev:a.eval (.func f)=.func (.func f) #[] #[]:=rfl;simp[execOp,resolve,hev,Deferred.ofValue,invoke,hf.run]
theorem J6 [hf:FnB P f](m1 fr:List Piece){K:AV->List Piece->Prop}(hc:Spec P s.gl f args m1 K)(h:∀ v m1',K v m1'->AL P N ops Q s rest ((d,v)::e) (m1'++fr))
  (hp:m.Perm (m1++fr)) (hx:evs e xs=some args:=by exact rfl) (hn:args.all U8=true:=by exact rfl) (hd:Nat.blt d N=true:=by exact rfl):AL P N ops Q s (⟨some d,.call ⟨.value (.func f),xs.toArray,ts⟩,ty,pos,af,none⟩::rest) e m:=
 Eu hc hp (a9m hx hn) λv m1' g ok w _a _u g2 g3 g4=>(h v m1' g).run ok w _ g3 (g4.put g2 hd)
class Ans (P:Program)(gl:List (Nat × AV))(f:FuncId)(args:List AV)(pre:outParam Prop)(out:outParam AV):Prop where
 spec:pre->SpecE P gl f args out
theorem a0I [hf:FnB P f]{pre:Prop}{out:AV}(h:AL P N ops Q s rest ((d,out)::e) m)(hx:evs e xs=some args:=by exact rfl)(hg:s.gl=gl:=by assumption)(hc:Ans P gl f args pre out:=by infer_instance)
  (hp:pre:=by first|exact True.intro|assumption|omega|(simp only[List.length_take,List.length_drop];omega)|(simp only[true_and,and_true];omega)|(simp;done)|(simp;omega)) (hn:args.all U8=true:=by exact rfl) (hd:Nat.blt d N=true:=by exact rfl):AL P N ops Q s (⟨some d,.call ⟨.value (.func f),xs.toArray,ts⟩,ty,pos,af,none⟩::rest) e m:=
 J6 (K:=λv m'=>v=out/\m'=[]) [] m (by rw[hg];exact hc.spec hp) (λv m1' hh=>by obtain⟨h1,h2⟩:=hh;subst h1 h2;exact h) lpr hx hn hd
theorem a0H [hf:FnB P f]{pre:Prop}{out:AV}(hp:pre)(h:AL P N ops Q s rest ((d,out)::e) m)(hx:evs e xs=some args:=by exact rfl)(hg:s.gl=gl:=by assumption)(hc:Ans P gl f args pre out:=by infer_instance)
  (hn:args.all U8=true:=by exact rfl) (hd:Nat.blt d N=true:=by exact rfl):AL P N ops Q s (⟨some d,.call ⟨.value (.func f),xs.toArray,ts⟩,ty,pos,af,none⟩::rest) e m:=a0I h hx hg hc hp hn hd
class AnsM (P:Program)(gl:List (Nat × AV))(f:FuncId)(g:Nat)(args:List AV)(T:TypeId)(v:AV)(pre:outParam Prop)(out:outParam AV)(v':outParam AV):Prop where
 spec:pre->Spec P gl f (ptr g::args) [.var g T v] λu m'=>u=out/\m'=[.var g T v']
theorem Upd.perm {p p':Piece}(h:Upd m p p' m'):∃ fr,m.Perm (p::fr)/\m'.Perm (p'::fr):=by
 obtain⟨pre,post,rfl,rfl⟩:=h.parts;exact⟨pre++post,List.perm_middle,List.perm_middle⟩
theorem dH [hf:FnB P f]{g:Nat}{T:TypeId}{v':AV}{pre:Prop}{out:AV}(h:AL P N ops Q s rest ((d,out)::e) m')(hx:evs e xs=some (ptr g::args):=by exact rfl)
  (hu:Upd m (.var g T v) (.var g T v') m':=by (repeat (first|apply Av.Upd.here|apply Av.Upd.there))) (hg:s.gl=gl:=by assumption) (hc:AnsM P gl f g args T v pre out v':=by infer_instance) (hp:pre:=by first|exact True.intro|assumption|omega|(simp only[List.length_take,List.length_drop];omega)|(simp only[true_and,and_true];omega)|(simp;done)|(simp;omega)) (hn:args.all U8=true:=by exact rfl) (hd:Nat.blt d N=true:=by exact rfl):AL P N ops Q s (⟨some d,.call ⟨.value (.func f),xs.toArray,ts⟩,ty,pos,af,none⟩::rest) e m:=by
 obtain⟨fr,h1,h2⟩:=hu.perm;refine J6 (K:=λu m'=>u=out/\m'=[.var g T v']) [.var g T v] fr (by rw[hg];exact hc.spec hp) (λu m1' hh=>?_) h1 hx (by simpa[U8] using hn) hd;obtain⟨e1,e2⟩:=hh;subst e1 e2;exact lC (λok w hS=>hS.perm h2) h
abbrev F3 (f:FuncId)(cs:List Value):AV:=.lit (.func (.func f) #[] cs.toArray)
theorem b0W [hf:FnB P f](h0:ev e x=some (F3 f cs))(hx:evs e xs=some args)(hn:args.all U8=true)(hc:∀ v∈cs,v.oneCell'=true):∀ ok w a,Sat N ok w e a->∃ cs',RVs ok w (args++cs.map .lit) cs'/\(execOp a.eval ⟨dst,.call ⟨.value x,xs.toArray,ts⟩,ty,pos,af,none⟩).run P w=.ok (.enter f cs'.toArray) w:=λok w a ha=>by
 have happ:∀ {as:List AV} {vs:List Value},RVs ok w as vs->RVs ok w (as++cs.map .lit) (vs++cs):=by
  intro as
  induction as with
  | nil=>intro vs h;obtain rfl:=(show vs=[] from h);exact RVs.ofLits hc
  | cons b as ih=>
   rintro vs ⟨u,us,rfl,h2,h3⟩;exact⟨u,us++cs,rfl,h2,ih h3⟩
 refine⟨_,happ (ha.evals hx hn),?_⟩;simp[execOp,resolve,ha.lit h0,Deferred.ofValue,invoke,hf.run]
theorem gX [hf:FnB P f](m1 fr:List Piece){K:AV->List Piece->Prop}(hc:Spec P s.gl f (args++cs.map .lit) m1 K)(h:∀ v m1',K v m1'->AL P N ops Q s rest ((d,v)::e) (m1'++fr))(hp:m.Perm (m1++fr))
  (h0:ev e x=some (F3 f cs):=by exact rfl) (hx:evs e xs=some args:=by exact rfl) (hn:args.all U8=true:=by exact rfl) (hcs:∀ v∈cs,v.oneCell'=true:=by simp[Value.oneCell']) (hd:Nat.blt d N=true:=by exact rfl):AL P N ops Q s (⟨some d,.call ⟨.value x,xs.toArray,ts⟩,ty,pos,af,none⟩::rest) e m:=
 Eu hc hp (b0W h0 hx hn hcs) λv m1' g ok w _a _u g2 g3 g4=>(h v m1' g).run ok w _ g3 (g4.put g2 hd)
theorem b3c [hf:FnB P f]{all:List AV}{pre:Prop}{out:AV}(h:AL P N ops Q s rest ((d,out)::e) m)(h0:ev e x=some (F3 f cs):=by exact rfl)(hx:evs e xs=some args:=by exact rfl)(hg:s.gl=gl:=by assumption)
  (ha:args++cs.map .lit=all:=by ((try simp only[List.map_cons,List.map_nil,List.cons_append,List.nil_append,List.append_nil]);exact rfl)) (hc:Ans P gl f all pre out:=by infer_instance) (hp:pre:=by first|exact True.intro|assumption|omega|(simp only[List.length_take,List.length_drop];omega)|(simp only[true_and,and_true];omega)|(simp;done)|(simp;omega)) (hn:args.all U8=true:=by exact rfl) (hcs:∀ v∈cs,v.oneCell'=true:=by simp[Go.Value.oneCell']) (hd:Nat.blt d N=true:=by exact rfl) :
  AL P N ops Q s (⟨some d,.call ⟨.value x,xs.toArray,ts⟩,ty,pos,af,none⟩::rest) e m:=
 gX (K:=λv m'=>v=out/\m'=[]) [] m (by rw[hg,ha];exact hc.spec hp) (λv m1' hh=>by obtain⟨h1,h2⟩:=hh;subst h1 h2;exact h) lpr h0 hx hn hcs hd
theorem Z0 {cs:List Operand}{vs:List Value}(h:AL P N ops Q s rest ((d,F3 f vs)::e) m)(hx:evs e cs=some (vs.map .lit):=by exact rfl)(_hn:vs.all (·.oneCell')=true:=by exact rfl)(hd:Nat.blt d N=true:=by exact rfl):AL P N ops Q s (⟨some d,.makeFunc (.func f) #[] cs.toArray,ty,pos,af,none⟩::rest) e m:=
 R8 rfl (λok w a ha=>by
  have h1:=ha.evals hx (by simp[U8]);have h2:∀ {vs us:List Value},RVs ok w (vs.map .lit) us->us=vs:=by
   intro vs
   induction vs with
   | nil=>intro us h;exact h
   | cons v vs ih=>
    rintro us ⟨u,us',rfl,h2,h3⟩;rw[RV0.lit h2,ih h3]
  have h3:=h2 h1;have h4:Array.map a.eval cs.toArray=vs.toArray:=by rw[<- h3];simp
  simp[execOp,Instr.makeFunc,h3]) hd h
end
attribute [irreducible] Spec
end
theorem qF {P:Program} {N:Nat} {gl:List (Nat × AV)} {f:FuncId} {fn:Func} {c:Code} {args:List AV} {m:List Piece} {K:AV -> List Piece -> Prop} (hf:P.funcs[f]?=some fn) (hN:fn.ntmps=N) (h:∀ s:Base,s.gl=gl -> AC P N c (bodyPost P fn (Back s K)) s (IB 0 args) m) (hb:fn.body=some c:=by exact rfl) (hl:Nat.ble args.length N=true:=by exact rfl):Spec P gl f args m K:=qE hf hb hN hl h

section
variable {l:Bs}{bS k kS:Nat}{D E S T:TypeId}{x:Operand}
class Byts (xs:List AV)(l:outParam Bs):Prop where
 out:∀ ok w cs,RCs ok w xs cs->nP cs=some l
instance : Byts [] [] := ⟨λok w cs h => by rw[RCs] at h; subst h; rfl⟩
instance {n:Int}{xs:List AV}{l:Bs}[h:Byts xs l]:Byts (.lit (.int .u8 n)::xs) (UInt8.ofNat n.toNat::l):=⟨λok w cs hc=>by
 rw[RCs] at hc;obtain⟨c1,c2,rfl,h1,h2⟩:=hc;rw[RC] at h1;rw[h1.1];simp[nP,LB,h.out ok w c2 h2]⟩
theorem Zb:∀ {a b:List Value} {l r:Bs},nP a=some l->nP b=some r->nP (a++b)=some (l++r)
 | [],b,l,r,h,k=>by simp[nP] at h;subst h;exact k
 | v::a,b,l,r,h,k=>by
  simp only[nP] at h;cases hv:LB v with
  | none=>simp[hv] at h
  | some c=>
   cases ha:nP a with
   | none=>simp[hv,ha] at h
   | some q=>
    simp[hv,ha] at h;subst h;rw[List.cons_append,nP,hv,Zb ha k];rfl
instance {xs ys:List AV}{l r:Bs}[h:Byts xs l][k:Byts ys r]:Byts (xs++ys) (l++r):=⟨λok w cs hc=>by
 obtain⟨c,d,rfl,h1,h2⟩:=hc.split;exact Zb (h.out ok w c h1) (k.out ok w d h2)⟩
instance {l:Bs}:Byts (l.map λc=>.lit (y8 c)) l:=⟨λok w cs hc=>by
 induction l generalizing cs with
 | nil=>rw[List.map_nil,RCs] at hc;subst hc;rfl
 | cons c l ih=>
  rw[List.map_cons,RCs] at hc;obtain⟨c1,c2,rfl,h1,h2⟩:=hc;rw[RC] at h1;rw[h1.1,List.singleton_append,nP,ih c2 h2];simp[y8,LB]⟩
section
variable {P:Program} {N:Nat} {ops:Array Oper} {Q:Exit->Act->World->Prop} {rest:List Oper} {s:Base} {e:Env} {m:List Piece} {d:Nat} {ty:TypeId} {pos:String} {af:Array Edge}
theorem Je {w:World}(tS:TyL P S E kS bS)(tE:TyI P E .u8)(tD:TyT P D){a:Addr}{n c:Nat}{cs:List Value}(hr:∀ j v,cs[j]?=some v->w.cell? (a.add j)=some v)(hn:cs.length=n)(hl:nP cs=some l) :
  (convert S D (.slice (some a) n c)).run P w=.ok (sv l) w:=by
 obtain⟨ns,rfl,rfl⟩:=Yy hl;have h1:=run_loadCells_list (P:=P) w a _ hr;rw[hn] at h1;rw[run_convert_bytes_string w S D E _ n c tS.out tE.out tD.out,run_bytesToString w _ n c ns h1,foldl_push_bytes];simp[ByteArray.empty,ByteArray.emptyWithCapacity];rfl
theorem b1X [tS:TyL P S E kS bS][tE:TyI P E .u8][tD:TyT P D]{xs:List AV}{id:Option Value}(h:AL P N ops Q s rest ((d,str l)::e) m)(hx:ev e x=some (.sl 1 xs id):=by exact rfl)(hb:Byts xs l:=by infer_instance)(hd:Nat.blt d N=true:=by exact rfl) :
  AL P N ops Q s (⟨some d,.convert S D x,ty,pos,af,none⟩::rest) e m:=
 R8 rfl (λok w A hA=>by
  obtain⟨a,c,g1,_,g3,g4,g5,_⟩:=qY (hA.eval hx);rcases Nat.eq_zero_or_pos xs.length with h0|h0
  ·have hxs:xs=[]:=List.eq_nil_of_length_eq_zero h0;subst hxs;have hl:=hb.out ok w [] (by rw[RCs]);simp[nP] at hl;subst hl;cases a with
   | none=>
    have:=run_convert_bytes_nil (P:=P) w S E tS.out tE.out 0 c D tD.out;simp only[List.length_nil] at g1;simp[execOp,g1,this];rfl
   | some a=>
    have h1:(loadCells a 0).run P w=.ok ([].map (Value.int .u8)).toArray w:=by simpa using run_loadCells_list (P:=P) w a [] sm
    have h2:=run_bytesToString (P:=P) w a 0 c [] h1;have h3:=run_convert_bytes_string (P:=P) w S D E (some a) 0 c tS.out tE.out tD.out;simp only[List.length_nil] at g1;simp[execOp,g1,h3,h2];rfl
  obtain⟨b,o,es,f1,f2,f3,f4⟩:=g5 h0;subst f1;have:=Je (P:=P) (w:=w) tS tE tD (a:=⟨b,o,none⟩) (n:=xs.length) (c:=c) (cs:=es) (λj v hj=>by rw[add_mid];exact(f3 j v hj).1) om (hb.out ok w es f4);simp[execOp,g1,this]) hd h
theorem b2b {n:Nat}[t:TyA P T n E k]{g o:Nat}(h:AL P N ops Q s rest ((d,.lit (.slice (some ⟨g,o,none⟩) n n))::e) m)(hx:ev e x=some (.lit (.pointer (some ⟨g,o,none⟩))):=by exact rfl)(hd:Nat.blt d N=true:=by exact rfl):AL P N ops Q s (⟨some d,.slice T x none none none,ty,pos,af,none⟩::rest) e m:=
 R8 rfl (λok w B hB=>by simp[execOp,hB.lit hx,Instr.sliceAt,Instr.sureAddr,run_underlying t.out,run_sizeOf t.sz,Instr.sliceBounds,Addr.add]) hd h
theorem Em [tS:TyL P S E kS bS][tE:TyI P E .u8][tD:TyT P D]{g n c:Nat}{T0:TypeId}{ps:List AV}(h:AL P N ops Q s rest ((d,str l)::e) m)(hx:ev e x=some (.lit (.slice (some ⟨g,0,none⟩) n c)):=by exact rfl)(hm:Has m (.var g T0 (.agg k ps)):=by (repeat (first|exact Av.Has.here|apply Av.Has.there)))
  (hk:Nat.beq k n=true:=by exact rfl) (hb:Byts ps l:=by infer_instance) (hd:Nat.blt d N=true:=by exact rfl):AL P N ops Q s (⟨some d,.convert S D x,ty,pos,af,none⟩::rest) e m:=
 dR (v:=str l) (λok w A hS hA=>by
  obtain⟨cs,h1,h2⟩:=hS.at_ _ hm.mem;rw[RC] at h2;have hk:=Nat.eq_of_beq_eq_true hk;have:=Je (P:=P) (w:=w) tS tE tD (a:=⟨g,0,none⟩) (n:=n) (c:=c) (cs:=cs) (λj v hj=>by rw[add_mid,cell_of_row _ _ _ _ _ _ h1];simpa using hj) (by rw[h2.1,hk]) (hb.out ok w cs h2.2);exact⟨sv l,by simp[execOp,hA.lit hx,this],RVl rfl⟩) hd h
theorem b3g [tS:TyT P S][tD:TyL P D E kS bS][tE:TyI P E .u8](h:AL P N ops Q s rest ((d,.sl 1 (l.map λc=>.lit (y8 c)) none)::e) m)(hx:ev e x=some (str l):=by exact rfl)(hl:l.length<=maxLen:=by first|(simp[maxLen];done)|(unfold maxLen;omega))(hd:Nat.blt d N=true:=by exact rfl) :
  AL P N ops Q s (⟨some d,.convert S D x,ty,pos,af,none⟩::rest) e m:=
 zQ (v:=.sl 1 (l.map λc=>.lit (y8 c)) none) (λok w A hS hA=>by
  have hr:=Lib.run_convert_string_bytes (P:=P) w S D E ⟨l.toArray⟩ tS.out tD.out tE.out;rw[yQ] at hr;have hb:=Lib.bytesWorld_at_new w E ⟨l.toArray⟩;have he:Ext w (Lib.bytesWorld w E ⟨l.toArray⟩):=⟨by
   unfold Lib.bytesWorld World.freeze;split <;> rfl,by
   unfold Lib.bytesWorld World.freeze;split <;> rfl,by
   unfold Lib.bytesWorld World.freeze;split <;> rfl,by rw[Lib.bytesWorld_size];omega,λk hk=>Lib.bytesWorld_at_old w E _ k hk⟩
  refine⟨.slice (some ⟨w.heap.size,0,none⟩) l.length (grownCap w l.length 0 E),_,ok,m,by simp[execOp,hA.lit hx,hr],?_,hS.ext he,Ext.astp he ok,h⟩;refine RV.sl sm sm (grownCap_ge w _ 0 E) (grownCap_le_maxLen w _ 0 E hl) (λhp=>⟨w.heap.size,0,l.map y8,rfl,sm,λj v hj=>?_,?_⟩) (λx hx=>by
   obtain⟨c,_,rfl⟩:=List.mem_map.1 hx;rfl)
  ·have hlt:j<l.length:=by have:=(List.getElem?_eq_some_iff.1 hj).1;simpa using this
   rw[Nat.zero_add,cell_of_row _ _ _ _ _ _ hb];refine⟨?_,hS.fresh _ _ (Nat.le_refl _)⟩;unfold Lib.bytesCells;rw[Array.getElem?_append_left (by simp;exact hlt)];simpa[y8] using hj
  have:∀ l:Bs,RCs ok (Lib.bytesWorld w E ⟨l.toArray⟩) (l.map λc=>AV.lit (y8 c)) (l.map y8)->True:=λ_ _=>trivial;have key:∀ (ok:Ok) (w:World) (l:Bs),RCs ok w (l.map λc=>AV.lit (y8 c)) (l.map y8):=by
   intro ok w l
   induction l with
   | nil=>rw[List.map_nil,RCs];rfl
   | cons c l ih=>
    rw[List.map_cons,RCs];exact⟨[y8 c],l.map y8,rfl,by rw[RC];exact⟨rfl,rfl⟩,ih⟩
  exact key _ _ l) hd
theorem PP {yT:TypeId}{k yk:IntKind}{y:Operand}{a b:Int}{n:Nat}(h:AL P N ops Q s rest ((d,.lit (.int k (a / (2 ^ n:Nat))))::e) m)(hx:ev e x=some (.lit (.int k a)):=by exact rfl)(hy:ev e y=some (.lit (.int yk b)):=by exact rfl)(hb:b=Int.ofNat n:=by exact rfl)(hn:Nat.ble n k.bits=true:=by exact rfl)(hd:Nat.blt d N=true:=by exact rfl) :
  AL P N ops Q s (⟨some d,.binOp .shr T x y yT,ty,pos,af,none⟩::rest) e m:=
 LK rfl hx hy (λw=>by
  subst hb;have hn:=nlb hn;have h0:¬ ((Int.ofNat n:Int)<0):=by simp
  have h1:(0:Int)<=((2 ^ n:Nat):Int):=Int.natCast_nonneg _;have h2:min n k.bits=n:=by omega
  have e1:Int.fdiv a (2 ^ n)=a / (2 ^ n:Nat):=by
   rw[show ((2:Int) ^ n)=((2 ^ n:Nat):Int) by simp];exact Int.fdiv_eq_ediv_of_nonneg a h1
  simp only[Op.shift,Int.ofNat_eq_natCast,Int.toNat_natCast,h2,e1];rfl) (.inr rfl) hd h
theorem aX {n:Nat}[t:TyA P T n E k]{ix:Operand}{kd:IntKind}{g o:Nat}{i:Int}(j:Nat)(h:AL P N ops Q s rest ((d,.lit (.pointer (some ⟨g,o+j*k,none⟩)))::e) m)(hx:ev e x=some (.lit (.pointer (some ⟨g,o,none⟩))):=by exact rfl)(hi:ev e ix=some (.lit (.int kd i)):=by exact rfl)(hj:i=(j:Int):=by first|exact rfl|omega)(hlt:j<n:=by omega)(hd:Nat.blt d N=true:=by exact rfl) :
  AL P N ops Q s (⟨some d,.indexAddr T x ix,ty,pos,af,none⟩::rest) e m:=by
 subst hj;have hin:(0:Int)<=(j:Int)/\(j:Int)<(n:Nat):=by omega
 exact R8 rfl (λok w B hB=>by
  simp only[execOp,hB.lit hx,hB.lit hi,Instr.indexAt,asIntOf,Instr.sureAddr,Sem.run_bind,Sem.run_pure,Result.andThen_ok,run_underlying t.out,hin,and_self,if_true,run_sizeOf t.sz,Int.toNat_natCast,add_mid]) hd h
theorem IE {n nn:Nat}[t:TyA P T n E k]{a:Bool}[tE:Ty P E a k]{ix:Operand}{kd:IntKind}{i:Int}{ps:List AV}{u:AV}(j:Nat)(h:AL P N ops Q s rest ((d,u)::e) m)(hj:i=(j:Int))(hlt:j<n)(hu:ps[j]?=some u)(hk:∀ p∈ps,p.size=k)(ha:u.isAgg=a)(hx:ev e x=some (.agg nn ps):=by exact rfl)(hi:ev e ix=some (.lit (.int kd i)):=by exact rfl)(hd:Nat.blt d N=true:=by exact rfl) :
  AL P N ops Q s (⟨some d,.index T x ix,ty,pos,af,none⟩::rest) e m:=by
 subst hj;have hin:(0:Int)<=(j:Int)/\(j:Int)<(n:Nat):=by omega
 exact dR (λok w B _ hB=>by
  obtain⟨cs,h1,h2⟩:=LV (hB.eval hx);rw[RC] at h2;obtain⟨hlt',he⟩:=List.getElem?_eq_some_iff.1 hu;obtain⟨x',c,y,rfl,e2,e3,e4⟩:=h2.2.at_ hk hlt';rw[he] at e4;have hr:=QT (P:=P) (w:=w) (x:=x') (y:=y) tE e4 e3 ha;rw[e2] at hr;exact⟨_,by simp only[execOp,h1,hB.lit hi,Instr.index,asIntOf,Sem.run_bind,Sem.run_pure,Result.andThen_ok,run_underlying t.out,hin,and_self,if_true,run_sizeOf t.sz,Int.toNat_natCast,hr],RV.of0 (ha ▸ RV0.mk e4)⟩) hd h
end
end

section
variable {u:AV}{k:Nat}{x y:Operand}{T yT:TypeId}{a:W32}
abbrev bW (x:W32):AV:=.lit (dU x)
class Siz (ps:List AV)(k:outParam Nat):Prop where
 out:∀ p∈ps,p.size=k
instance {α:Type}{f:α->Value}{l:List α}:Siz (l.map λx=>.lit (f x)) 1:=⟨λp hp=>by obtain⟨a,_,rfl⟩:=List.mem_map.1 hp;rfl⟩
instance {v:Value}{l:List AV}[h:Siz l 1]:Siz (.lit v::l) 1:=⟨λp hp=>by
 rcases List.mem_cons.1 hp with rfl|hp
 ·rfl
 exact h.out p hp⟩
instance : Siz [] 1 := ⟨sm⟩
instance {a b:List AV}{k:Nat}[h:Siz a k][g:Siz b k]:Siz (a++b) k:=⟨λp hp=>(List.mem_append.1 hp).elim (h.out p) (g.out p)⟩
instance {a:List AV}{k i:Nat}[h:Siz a k]:Siz (a.take i) k:=⟨λp hp=>h.out p (List.mem_of_mem_take hp)⟩
instance {a:List AV}{k i:Nat}[h:Siz a k]:Siz (a.drop i) k:=⟨λp hp=>h.out p (List.mem_of_mem_drop hp)⟩
instance {n:Nat}{v:Value}:Siz (List.replicate n (.lit v)) 1:=⟨λp hp=>by rw[(List.mem_replicate.1 hp).2];rfl⟩
section
variable {P:Program} {N:Nat} {ops:Array Oper} {Q:Exit->Act->World->Prop} {rest:List Oper} {s:Base} {e:Env} {m:List Piece} {d:Nat} {ty:TypeId} {pos:String} {af:Array Edge}
theorem RCs.set {ok:Ok}{w:World}{i:Nat}{as:List AV}{cs c:List Value}(h:RCs ok w as cs)(hk:∀ a∈as,a.size=k)(hi:i<as.length)(hu:RC ok w u c)(_hc:u.size=k):RCs ok w (as.set i u) (cs.take (i*k)++c++cs.drop (i*k+k)):=by
 have he:as=as.take i++(as[i]::as.drop (i+1)):=by
  rw[<- List.drop_eq_getElem_cons hi,List.take_append_drop]
 rw[he] at h;obtain⟨x,dd,rfl,h1,h2⟩:=h.split;rw[RCs] at h2;obtain⟨c0,y,rfl,h3,h4⟩:=h2;have hx:x.length=i*k:=by
  rw[h1.len (λa ha=>hk a (List.mem_of_mem_take ha))];simp[Nat.min_eq_left (Nat.le_of_lt hi)]
 have hc0:c0.length=k:=by rw[h3.len,hk _ (List.getElem_mem hi)]
 have e1:(x++(c0++y)).take (i*k)=x:=by rw[<- hx,List.take_left]
 have e2:(x++(c0++y)).drop (i*k+k)=y:=by
  rw[<- List.append_assoc,show i*k+k=(x++c0).length by simp[hx,hc0],List.drop_left]
 rw[e1,e2,List.set_eq_take_append_cons_drop,if_pos hi,laa];exact h1.append (by rw[RCs];exact⟨c,y,rfl,hu,h4⟩)
theorem vL {a:Bool}[t:Ty P T a k]{g j n:Nat}{T0:TypeId}{ps:List AV}(hu:ps[j]?=some u)(h:AL P N ops Q s rest ((d,u)::e) m)(hx:ev e x=some (.lit (.pointer (some ⟨g,0+j*k,none⟩))):=by exact rfl)
  (hm:Has m (.var g T0 (.agg n ps)):=by (repeat (first|exact Av.Has.here|apply Av.Has.there))) (hk:Siz ps k:=by infer_instance) (ha:u.isAgg=a:=by exact rfl) (hd:Nat.blt d N=true:=by exact rfl):AL P N ops Q s (⟨some d,.load T x,ty,pos,af,none⟩::rest) e m:=
 dR (λok w A hS hA=>by
  obtain⟨cs,hb,hg⟩:=hS.at_ _ hm.mem;rw[RC] at hg;obtain⟨hlt,he⟩:=List.getElem?_eq_some_iff.1 hu;obtain⟨x',c,y,e1,e2,e3,e4⟩:=hg.2.at_ hk.out hlt;rw[he] at e4;have hr:=JD (P:=P) t (b:=g) (o:=0+j*k) (λi v hv=>by rw[Nat.zero_add,<- e2];exact QA hb e1 i v hv) e4 e3 ha;exact⟨_,by simp[execOp,hA.lit hx,Instr.loadAt,Instr.sureAddr] at hr ⊢;simp[hr],RV.of0 (ha ▸ RV0.mk e4)⟩) hd h
theorem vJ {a:Bool}[t:Ty P T a k]{g j n:Nat}{T0:TypeId}{ps:List AV}{m':List Piece}(hj:j<ps.length)(h:AL P N ops Q s rest e m')(hx:ev e x=some (.lit (.pointer (some ⟨g,0+j*k,none⟩))):=by exact rfl)
  (hy:ev e y=some u:=by exact rfl) (hu:Upd m (.var g T0 (.agg n ps)) (.var g T0 (.agg n (ps.set j u))) m':=by (repeat (first|apply Av.Upd.here|apply Av.Upd.there))) (hk:Siz ps k:=by infer_instance) (hsz:Nat.beq u.size k=true:=by exact rfl) (hn:U8 u=true:=by exact rfl) :
  AL P N ops Q s (⟨none,.store T x y,ty,pos,af,none⟩::rest) e m:=
 LJ (λok w A hS hA=>by
  obtain⟨pre,post,rfl,rfl⟩:=hu.parts;obtain⟨cs,hb,hg⟩:=hS.at_ (.var g T0 (.agg n ps)) sm;rw[RC] at hg;have hv0:=(hA.eval hy).to0 (by rintro vs rfl;simp[U8] at hn);have hsz:=Nat.eq_of_beq_eq_true hsz;have hlen:(A.eval y).cells.toList.length=k:=by rw[hv0.1.len,hsz]
  have hz:(A.eval y).cells.size=k:=by simpa using hlen
  have hset:=hg.2.set hk.out hj hv0.1 hsz;have hcl:=hg.2.len hk.out;have hle:j*k+k<=ps.length*k:=by
   have:=Nat.mul_le_mul_right k (show j+1<=ps.length from hj);rw[Nat.add_mul] at this;omega
  have hrun:=WV (P:=P) t.sz (v:=A.eval y) (o:=j*k) hb hz (by simp;omega) (hv0.1.one);have hl2:(cs.take (j*k)++(A.eval y).cells.toList++cs.drop (j*k+k)).length=cs.length:=by
   simp at hlen ⊢;omega
  obtain⟨h1,h2⟩:=hS.writeVar (v':=.agg n (ps.set j u)) (cs':=cs.take (j*k)++(A.eval y).cells.toList++cs.drop (j*k+k)) (by rw[RC];exact⟨by rw[hl2];exact hg.1,hset⟩) (λcs2 hb2=>by
   rw[hb] at hb2;injection hb2 with hb2
   injection hb2 with hb2
   have:cs=cs2:=by simpa using congrArg Array.toList hb2
   subst this;exact hl2)
  simp only at hrun;exact⟨_,ok,by simp[execOp,hA.lit hx,Instr.storeAt,Instr.sureAddr,hrun],h1,h2⟩) h
theorem b3m {op:BinOp}{b c:W32}(h:AL P N ops Q s rest ((d,bW c)::e) m)(hx:ev e x=some (bW a):=by exact rfl)(hy:ev e y=some (bW b):=by exact rfl)(hc:b1m op a b=some c:=by exact rfl)(hd:Nat.blt d N=true:=by exact rfl):AL P N ops Q s (⟨some d,.binOp op T x y yT,ty,pos,af,none⟩::rest) e m:=by
 have hb:∀ z:W32,IntKind.u32.wrap (z.toNat:Int)=(z.toNat:Int):=λz=>by
  rw[wrap_u32];simp
 have key:∀ w,(binOp op T (dU a) (dU b)).run P w=.ok (dU c) w:=λw=>by
  cases op <;> (first|(cases hc;done)|(injection hc with hc;subst hc;simp only[binOp,dU,Op.intBits,a5q,ne_eq,not_true,if_false];exact congrArg (λn=>Result.ok (Value.int IntKind.u32 n) w) (hb _)))
 exact R8 rfl (λok w A hA=>Av.AO hA hx hy (key w)) hd h
theorem b3t {b:W32}(h:AL P N ops Q s rest ((d,bW (a+b))::e) m)(hx:ev e x=some (bW a):=by exact rfl)(hy:ev e y=some (bW b):=by exact rfl)(hd:Nat.blt d N=true:=by exact rfl):AL P N ops Q s (⟨some d,.binOp .add T x y yT,ty,pos,af,none⟩::rest) e m:=by
 have h1:IntKind.u32.wrap ((a.toNat:Int)+(b.toNat:Int))=((a+b).toNat:Int):=by
  rw[<- Int.natCast_add,wrap_u32,BitVec.ofNat_add];simp
 exact R8 rfl (λok w A hA=>Av.AO hA hx hy (by rw[QV rfl,h1];rfl)) hd h
theorem VF {yk:IntKind}{b:Int}(n:Nat)(h:AL P N ops Q s rest ((d,bW (a >>> n))::e) m)(hx:ev e x=some (bW a):=by exact rfl)(hy:ev e y=some (.lit (.int yk b)):=by exact rfl)(hb:b=(n:Int):=by first|exact rfl|omega)(hn:n<32:=by omega)(hd:Nat.blt d N=true:=by exact rfl):AL P N ops Q s (⟨some d,.binOp .shr T x y yT,ty,pos,af,none⟩::rest) e m:=by
 have e1:Int.fdiv (a.toNat:Int) (2 ^ n)=((a >>> n).toNat:Int):=by
  rw[show ((2:Int) ^ n)=((2 ^ n:Nat):Int) by simp,Int.fdiv_eq_ediv_of_nonneg _ (Int.natCast_nonneg _),BitVec.toNat_ushiftRight,Nat.shiftRight_eq_div_pow];simp
 exact LK rfl hx hy (λw=>by
  subst hb;have h0:¬ ((n:Int)<0):=by omega
  have h2:min n IntKind.u32.bits=n:=by show min n 32=n;omega
  simp only[Op.shift,h0,if_false,Int.toNat_natCast,h2,e1];rfl) (.inr rfl) hd h
theorem PQ {yk:IntKind}{b:Int}(n:Nat)(h:AL P N ops Q s rest ((d,bW (a <<< n))::e) m)(hx:ev e x=some (bW a):=by exact rfl)(hy:ev e y=some (.lit (.int yk b)):=by exact rfl)(hb:b=(n:Int):=by first|exact rfl|omega)(hn:n<32:=by omega)(hd:Nat.blt d N=true:=by exact rfl):AL P N ops Q s (⟨some d,.binOp .shl T x y yT,ty,pos,af,none⟩::rest) e m:=by
 have e1:IntKind.u32.wrap ((a.toNat:Int)*2 ^ n)=((a <<< n).toNat:Int):=by
  rw[show (a.toNat:Int)*2 ^ n=((a.toNat*2 ^ n:Nat):Int) by simp,wrap_u32,BitVec.toNat_shiftLeft,Nat.shiftLeft_eq,BitVec.toNat_ofNat]
 exact LK rfl hx hy (λw=>by
  subst hb;have h0:¬ ((n:Int)<0):=by omega
  have h1:min n IntKind.u32.bits=n:=by show min n 32=n;omega
  simp only[Op.shift,h0,if_false,Int.toNat_natCast,h1,e1];rfl) (.inl rfl) hd h
theorem b2X {S D:TypeId}{a:Bool}{kz:Nat}[tS:Ty P S a kz][t:TyI P D .u32]{b:UInt8}(h:AL P N ops Q s rest ((d,bW (IA b))::e) m)(hx:ev e x=some (.lit (y8 b)):=by exact rfl)(hd:Nat.blt d N=true:=by exact rfl):AL P N ops Q s (⟨some d,.convert S D x,ty,pos,af,none⟩::rest) e m:=by
 refine EQ (k':=.u32) ?_ hx hd;have:Value.int .u32 (IntKind.u32.wrap (b.toNat:Int))=dU (IA b):=by rw[wrap_u32];rfl
 rw[this];exact h
end
end
end Av
