/- . -/
import Derived.Test.YtcdbijbhifhkeaaGreatDoorV03
namespace Av
open Go Go.RowKit Tw
section
variable {m':List Piece}{E S T yT:TypeId}{u v:AV}{op:Op}{w:World}{bS i k o off z:Nat}{a:Bool}{ix x y:Operand}{kd:IntKind}{xs:List AV}{ih il:Int}{xl:Option Operand}
inductive Upd:List Piece->Piece->Piece->List Piece->Prop
 | here {p p':Piece} {m:List Piece}:Upd (p::m) p p' (p'::m)
 | there {q p p':Piece} {m m':List Piece}:Upd m p p' m'->Upd (q::m) p p' (q::m')
theorem Upd.parts {m:List Piece}{p p':Piece}(h:Upd m p p' m'):∃ pre post,m=pre++p::post/\m'=pre++p'::post:=by
 induction h with
 | here=>exact⟨[],_,rfl,rfl⟩
 | there _ ih=>
  obtain⟨pre,post,h1,h2⟩:=ih;exact⟨_::pre,post,by rw[h1];rfl,by rw[h2];rfl⟩
inductive Has:List Piece->Piece->Prop
 | here {p:Piece} {m:List Piece}:Has (p::m) p
 | there {q p:Piece} {m:List Piece}:Has m p->Has (q::m) p
theorem Has.mem {m:List Piece}{p:Piece}(h:Has m p):p∈m:=by
 induction h with
 | here=>simp
 | there _ ih=>simp[ih]
def qL:List (Option (List Value))->Option (List Value)
 | []=>some []
 | some a::r=>(match qL r with|some b=>some (a++b)|none=>none)
 | none::_=>none
def eG:Nat->AV->Option (List Value)
 | 0,_=>none
 | _+1,.lit v=>bif v.oneCell' then some [v] else none
 | f+1,.agg n ps=>(match qL (ps.map (eG f)) with
  | some cs=>bif Nat.beq cs.length n then some cs else none
  | none=>none)
 | _+1,_=>none
theorem Yb {ok:Ok}{w:World}{f:AV->Option (List Value)}:∀ {ps:List AV} {cs:List Value},qL (ps.map f)=some cs->(∀ p∈ps,∀ c,f p=some c->RC ok w p c)->RCs ok w ps cs
 | [],cs,h,_=>by
  simp[qL] at h;subst h;rw[RCs]
 | p::ps,cs,h,hf=>by
  rw[List.map_cons] at h;cases hp:f p with
  | none=>simp[hp,qL] at h
  | some a=>
   cases hr:qL (ps.map f) with
   | none=>simp[hp,qL,hr] at h
   | some b=>
    simp[hp,qL,hr] at h;subst h;rw[RCs];exact⟨a,b,rfl,hf p sm a hp,Yb hr λq hq=>hf q (by simp[hq])⟩
theorem HY {ok:Ok}{w:World}:∀ {f:Nat} {a:AV} {cs:List Value},eG f a=some cs->RC ok w a cs
 | 0,a,cs,h=>by simp[eG] at h
 | f+1,.lit v,cs,h=>by
  unfold eG at h;cases hv:v.oneCell' with
  | false=>simp[hv] at h
  | true=>
   simp[hv] at h;subst h;rw[RC];exact⟨rfl,hv⟩
 | f+1,.agg n ps,cs,h=>by
  unfold eG at h;split at h
  ·rename_i c hc;cases hb:Nat.beq c.length n with
   | false=>simp[hb] at h
   | true=>
    simp[hb] at h;subst h;rw[RC];exact⟨Nat.eq_of_beq_eq_true hb,Yb hc λp _ c' hc'=>HY hc'⟩
  cases h
 | f+1,.sl ..,cs,h=>by simp[eG] at h
 | f+1,.pd ..,cs,h=>by simp[eG] at h
 | f+1,.tup ..,cs,h=>by simp[eG] at h
class TyO (P:Program)(T:TypeId)(z:outParam AV):Prop where
 out:((P.info? T).map λi=>i.zero.map λv=>(v.cells.toList,xZ v))=some ((eG 8 z).map λcs=>(cs,z.isAgg))
 is:(eG 8 z).isSome=true
theorem TyO.run {P:Program}{z:AV}(t:TyO P T z)(w:World):∃ v cs,(zeroValue T).run P w=.ok v w/\v.cells.toList=cs/\xZ v=z.isAgg/\eG 8 z=some cs:=by
 have h1:=t.out;have h2:=t.is;cases hc:eG 8 z with
 | none=>simp[hc] at h2
 | some cs=>
  cases hq:P.info? T with
  | none=>simp[hq] at h1
  | some i=>
   cases hz:i.zero with
   | none=>simp[hq,hz,hc] at h1
   | some v=>
    simp[hq,hz,hc] at h1;exact⟨v,cs,by simp[zeroValue,typeInfo,hq,hz],h1.1,h1.2,rfl⟩
class TyE (P:Program)(S:TypeId)(E:outParam TypeId)(k:outParam Nat)(b:outParam Nat):Prop where
 l:TyL P S E k b
 z:((P.info? E).map λi=>i.zero.map (·.cells.size))=some (some k)
 k0:Nat.blt 0 k=true
section
variable {P:Program} {N:Nat} {ops:Array Oper} {Q:Exit->Act->World->Prop} {rest:List Oper} {s:Base} {e:Env} {m:List Piece} {d:Nat} {ty:TypeId} {pos:String} {af:Array Edge}
theorem zQ (hrun:∀ ok w a,St s ok m w->Sat N ok w e a->∃ u w' ok' m',(execOp a.eval ⟨some d,op,ty,pos,af,none⟩).run P w=.ok (.value u) w'/\RV ok' w' v u/\St s ok' m' w'/\Stp ok w ok' w'/\AL P N ops Q s rest ((d,v)::e) m')(hd:Nat.blt d N=true) :
  AL P N ops Q s (⟨some d,op,ty,pos,af,none⟩::rest) e m:=AL.mk λok w a hS ha=>
 wpList_plain rfl λK hK=>by
  obtain⟨u,w',ok',m',h1,h2,h3,h4,h5⟩:=hrun ok w a hS ha;unfold Oper.wp;rw[h1];exact hK _ _ (h5.run _ _ _ h3 ((ha.stp h4).put h2 hd))
theorem mK (hrun:∀ ok w a,St s ok m w->Sat N ok w e a->∃ v u w' ok' m',(execOp a.eval ⟨some d,op,ty,pos,af,none⟩).run P w=.ok (.value u) w'/\RV ok' w' v u/\St s ok' m' w'/\Stp ok w ok' w'/\AL P N ops Q s rest ((d,v)::e) m')(hd:Nat.blt d N=true) :
  AL P N ops Q s (⟨some d,op,ty,pos,af,none⟩::rest) e m:=AL.mk λok w a hS ha=>
 wpList_plain rfl λK hK=>by
  obtain⟨v,u,w',ok',m',h1,h2,h3,h4,h5⟩:=hrun ok w a hS ha;unfold Oper.wp;rw[h1];exact hK _ _ (h5.run _ _ _ h3 ((ha.stp h4).put h2 hd))
theorem LJ (hrun:∀ ok w a,St s ok m w->Sat N ok w e a->∃ w' ok',(execOp a.eval ⟨none,op,ty,pos,af,none⟩).run P w=.ok .skip w'/\St s ok' m' w'/\Stp ok w ok' w')(h:AL P N ops Q s rest e m') :
  AL P N ops Q s (⟨none,op,ty,pos,af,none⟩::rest) e m:=AL.mk λok w a hS ha=>
 wpList_plain rfl λK hK=>by
  obtain⟨w',ok',h1,h3,h4⟩:=hrun ok w a hS ha;unfold Oper.wp;rw[h1];exact hK _ _ (h.run _ _ _ h3 (ha.stp h4))
theorem RVl {ok:Ok}{v:Value}(h:v.oneCell'=true):RV ok w (.lit v) v:=(RV0.of_lit h:RV0 ok w (.lit v) v)
theorem JD (t:Ty P T a k){ok:Ok}{b:Nat}{es:List Value}(hr:∀ j v,es[j]?=some v->w.cell? ⟨b,o+j,none⟩=some v)(hu:RC ok w u es)(hk:es.length=k)(ha:u.isAgg=a) :
  (loadVar T ⟨b,o,none⟩).run P w=.ok (mk a es) w:=by
 unfold loadVar;rw[Sem.run_bind,WX t];cases a with
 | true=>
  have hl:=run_loadCells_list (P:=P) w ⟨b,o,none⟩ es (λj v hv=>by rw[add_mid];exact hr j v hv);rw[hk] at hl;simp[run_sizeOf t.sz,hl,mk]
 | false=>
  have h1:es.length=1:=by
   rw[hu.len];cases u <;> first|rfl|simp[AV.isAgg] at ha
  obtain⟨v,rfl⟩:=List.length_eq_one_iff.1 h1;have hc:w.cell? ⟨b,o,none⟩=some v:=by simpa using hr 0 v rfl
  simp[load,Sem.run,hc,mk]
theorem QA {g:Nat}{cs:List Value}(hb:w.heap[g]?=some (.cells cs.toArray T (0,0))){x c y:List Value}(he:cs=x++c++y):∀ j v,c[j]?=some v->w.cell? ⟨g,x.length+j,none⟩=some v:=λj v hv=>by
 rw[cell_of_row w g (x.length+j) _ T (0,0) hb];subst he;have hj:j<c.length:=(List.getElem?_eq_some_iff.1 hv).1;simp only[List.getElem?_toArray,List.append_assoc];rw[List.getElem?_append_right om,Nat.add_sub_cancel_left,List.getElem?_append_left hj];exact hv
theorem bV [t:Ty P T a k]{g:Nat}{T0:TypeId}(h:AL P N ops Q s rest ((d,u)::e) m)(hx:ev e x=some (.lit (.pointer (some ⟨g,o,none⟩))):=by exact rfl)
  (hm:Has m (.var g T0 v):=by (repeat (first|exact Av.Has.here|apply Av.Has.there))) (hv:jT a k 8 v o=some u:=by exact rfl) (hd:Nat.blt d N=true:=by exact rfl):AL P N ops Q s (⟨some d,.load T x,ty,pos,af,none⟩::rest) e m:=
 dR (λok w A hS hA=>by
  obtain⟨cs,hb,hg⟩:=hS.at_ _ hm.mem;obtain⟨x',c,y,e1,e2,e3,e4,e5⟩:=EH hv hg;have hr:=JD (P:=P) t (b:=g) (o:=o) (λj v hv=>by rw[<- e2];exact QA hb e1 j v hv) e4 e3 e5;exact⟨_,by simp[execOp,hA.lit hx,Instr.loadAt,Instr.sureAddr,hr],RV.of0 (e5 ▸ RV0.mk e4)⟩) hd h
theorem b2I [t:Ty P T a k](h:AL P N ops Q s rest ((d,u)::e) m)(hx:ev e x=some (.pd v):=by exact rfl)
  (hv:jT a k 8 v 0=some u:=by exact rfl) (hd:Nat.blt d N=true:=by exact rfl):AL P N ops Q s (⟨some d,.load T x,ty,pos,af,none⟩::rest) e m:=
 dR (λok w A _ hA=>by
  have hp:=(show RV0 ok w (.pd v) (A.eval x) from hA.eval hx);have h1:=hp.1;rw[RC,HV hp.2.symm] at h1;obtain⟨b,o,es,h1,h2,h3⟩:=h1;have h1:A.eval x=.pointer (some ⟨b,o,none⟩):=by simpa using h1
  obtain⟨x',c,y,e1,e2,e3,e4,e5⟩:=EH hv h3;have hx':x'=[]:=List.eq_nil_of_length_eq_zero e2;subst hx' e1;have hr:=JD (P:=P) (w:=w) t (b:=b) (o:=o) (es:=c) (λj v hv=>(h2 j v (by
   have hj:j<c.length:=(List.getElem?_eq_some_iff.1 hv).1;rw[List.nil_append,List.getElem?_append_left hj];exact hv)).1) e4 e3 e5
  exact⟨_,by simp[execOp,h1,Instr.loadAt,Instr.sureAddr,hr],RV.of0 (e5 ▸ RV0.mk e4)⟩) hd h
theorem a0v [t:Ty P T a k]{g:Nat}(h:AL P N ops Q s rest ((d,u)::e) m)(hx:ev e x=some (.lit (.pointer (some ⟨g,o,none⟩))):=by exact rfl)
  (hg:(g,v)∈s.gl) (hv:jT a k 8 v o=some u) (hd:Nat.blt d N=true:=by exact rfl):AL P N ops Q s (⟨some d,.load T x,ty,pos,af,none⟩::rest) e m:=
 dR (λok w A hS hA=>by
  obtain⟨es,h2,h3⟩:=hS.gl _ hg;obtain⟨x',c,y,e1,e2,e3,e4,e5⟩:=EH hv h3;subst e1;have hr:=JD (P:=P) (w:=w) t (b:=g) (o:=o) (es:=c) (λj v hv=>by
   have hj:j<c.length:=(List.getElem?_eq_some_iff.1 hv).1;have:=(h2 (x'.length+j) v (by rw[laa,List.getElem?_append_right om,Nat.add_sub_cancel_left,List.getElem?_append_left hj];exact hv)).1;simpa[e2] using this) e4 e3 e5
  exact⟨_,by simp[execOp,hA.lit hx,Instr.loadAt,Instr.sureAddr,hr],RV.of0 (e5 ▸ RV0.mk e4)⟩) hd h
theorem gW [t:Ty P T a k]{g:Nat}{T0:TypeId}{v':AV}(h:AL P N ops Q s rest e m')(hx:ev e x=some (.lit (.pointer (some ⟨g,o,none⟩))):=by exact rfl)
  (hy:ev e y=some u:=by exact rfl) (hu:Upd m (.var g T0 v) (.var g T0 v') m':=by (repeat (first|apply Av.Upd.here|apply Av.Upd.there))) (hp:uP u 8 v o=some v':=by exact rfl) (hk:Nat.beq u.size k=true:=by exact rfl) (hn:U8 u=true:=by exact rfl) :
  AL P N ops Q s (⟨none,.store T x y,ty,pos,af,none⟩::rest) e m:=
 LJ (λok w A hS hA=>by
  obtain⟨pre,post,rfl,rfl⟩:=hu.parts;obtain⟨cs,hb,hg⟩:=hS.at_ (.var g T0 v) sm;have hv0:=(hA.eval hy).to0 (by rintro vs rfl;simp[U8] at hn);obtain⟨p,q,r,e1,e2,e3,e4,e5,e6⟩:=YD hv0.1 hp hg;have hk:=Nat.eq_of_beq_eq_true hk;have hlen:(A.eval y).cells.toList.length=k:=by rw[hv0.1.len,hk]
  have hsz:(A.eval y).cells.size=k:=by simpa using hlen
  have hrun:=WV (P:=P) t.sz (v:=A.eval y) (o:=o) hb hsz (by simp[e1];omega) (hv0.1.one);have hC:(cs.toArray.toList.take o++(A.eval y).cells.toList++cs.toArray.toList.drop (o+k))=p++(A.eval y).cells.toList++r:=by
   simp only[e1];have h1:(p++q++r).take o=p:=by rw[<- e2,laa,List.take_left]
   have h2:(p++q++r).drop (o+k)=r:=by rw[<- e2,show k=q.length by omega,<- lla,List.drop_left]
   rw[h1,h2]
  rw[hC] at hrun;obtain⟨h1,h2⟩:=hS.writeVar (cs':=p++(A.eval y).cells.toList++r) e4 (λcs2 hb2=>by
   rw[hb] at hb2;injection hb2 with hb2
   injection hb2 with hb2
   have:cs=cs2:=by simpa using congrArg Array.toList hb2
   subst this;simp[e1];omega)
  exact⟨_,ok,by simp[execOp,hA.lit hx,Instr.storeAt,Instr.sureAddr,hrun],h1,h2⟩) h
theorem Ey {z:AV}[t:TyO P T z](h:∀ g,AL P N ops Q s rest ((d,ptr g)::e) (.var g T z::m))(hd:Nat.blt d N=true:=by exact rfl):AL P N ops Q s (⟨some d,.alloc T,ty,pos,af,none⟩::rest) e m:=
 mK (λok w A hS hA=>by
  obtain⟨v,cs,h1,h2,h3,h4⟩:=t.run w;obtain⟨ok',g1,g2⟩:=hS.newVar T (HY h4);have hc:v.cells=cs.toArray:=by rw[<- h2]
  exact⟨_,.pointer (some ⟨w.heap.size,0,none⟩),w.alloc (.cells cs.toArray T),ok',_,by simp[execOp,Instr.alloc,h1,newVar,newRow,newObj,Sem.run,hc],RVl rfl,g1,g2,h w.heap.size⟩) hd
theorem a0M (h:∀ g,AL P N ops Q s rest ((d,ptr g)::e) (.var g T v::m))(hx:ev e x=some v:=by exact rfl)(hn:U8 v=true:=by exact rfl)(hd:Nat.blt d N=true:=by exact rfl):AL P N ops Q s (⟨some d,.box T x,ty,pos,af,none⟩::rest) e m:=
 mK (λok w A hS hA=>by
  have hv0:=(hA.eval hx).to0 (by rintro vs rfl;simp[U8] at hn);obtain⟨ok',g1,g2⟩:=hS.newVar T hv0.1;exact⟨_,.pointer (some ⟨w.heap.size,0,none⟩),w.alloc (.cells (A.eval x).cells T),ok',_,by simp[execOp,Instr.box,newVar,newRow,newObj,Sem.run],RVl rfl,by simpa using g1,by simpa using g2,h w.heap.size⟩) hd
theorem b2R {l:List (TypeId × Nat × Nat)}[t:TyS P S l]{b T:Nat}(h:AL P N ops Q s rest ((d,.lit (.pointer (some ⟨b,o+off,none⟩)))::e) m)(hx:ev e x=some (.lit (.pointer (some ⟨b,o,none⟩))):=by exact rfl)(hi:l[i]?=some (T,off,z):=by exact rfl)(hz:Nat.beq z 0=false:=by exact rfl)(hd:Nat.blt d N=true:=by exact rfl) :
  AL P N ops Q s (⟨some d,.fieldAddr S x i,ty,pos,af,none⟩::rest) e m:=by
 obtain⟨fs,hu,_,hfs⟩:=QK t.out;obtain⟨f,hfi,hft,hfo,hfz⟩:=hfs i T off z hi;have hzne:z≠0:=Nat.ne_of_beq_eq_false hz;subst hft;subst hfo;exact R8 rfl (λok w A hA=>by simp[execOp,hA.lit hx,Instr.fieldAt,run_underlying hu,hfi,Instr.sureAddr,fieldPlace,run_sizeOf hfz,hzne,add_mid]) hd h
theorem a4V {ok:Ok}{u:Value}(hp:RV ok w (.pd v) u):∃ b o es,u=.pointer (some ⟨b,o,none⟩)/\At ok w b o es/\RC ok w v es:=by
 have hp:=(show RV0 ok w (.pd v) u from hp);have h1:=hp.1;rw[RC,HV hp.2.symm] at h1;obtain⟨b,o,es,h1,h2,h3⟩:=h1;exact⟨b,o,es,by simpa using h1,h2,h3⟩
theorem RV.pd {ok:Ok}{b:Nat}{es:List Value}(h:At ok w b o es)(hv:RC ok w v es):RV ok w (.pd v) (.pointer (some ⟨b,o,none⟩)):=by
 refine⟨?_,rfl⟩;rw[RC];exact⟨b,o,es,rfl,h,hv⟩
theorem At.mid {ok:Ok}{b:Nat}{x c y:List Value}(h:At ok w b o (x++c++y)):At ok w b (o+x.length) c:=λj v hv=>by
 have hj:j<c.length:=(List.getElem?_eq_some_iff.1 hv).1;have:=h (x.length+j) v (by rw[laa,List.getElem?_append_right om,Nat.add_sub_cancel_left,List.getElem?_append_left hj];exact hv)
 rwa [<- Nat.add_assoc] at this
theorem b2Q {l:List (TypeId × Nat × Nat)}[t:TyS P S l]{T:Nat}(h:AL P N ops Q s rest ((d,.pd u)::e) m)(hx:ev e x=some (.pd v):=by exact rfl)(hi:l[i]?=some (T,off,z):=by exact rfl)(tT:Ty P T a z:=by infer_instance)(hz:Nat.beq z 0=false:=by exact rfl)(hv:jT a z 8 v off=some u:=by exact rfl)(hd:Nat.blt d N=true:=by exact rfl) :
  AL P N ops Q s (⟨some d,.fieldAddr S x i,ty,pos,af,none⟩::rest) e m:=by
 obtain⟨fs,hu,_,hfs⟩:=QK t.out;obtain⟨f,hfi,hft,hfo,hfz⟩:=hfs i T off z hi;have hzne:z≠0:=Nat.ne_of_beq_eq_false hz;subst hft;subst hfo;exact dR (λok w A _ hA=>by
  obtain⟨b,o,es,h1,h2,h3⟩:=a4V (hA.eval hx);obtain⟨x',c,y,rfl,e2,e3,e4,e5⟩:=EH hv h3;exact⟨.pointer (some ⟨b,o+f.offset,none⟩),by simp[execOp,h1,Instr.fieldAt,run_underlying hu,hfi,Instr.sureAddr,fieldPlace,run_sizeOf hfz,hzne,add_mid],RV.pd (by rw[<- e2];exact h2.mid) e4⟩) hd h
theorem QT (t:Ty P T a k){ok:Ok}{x c y:List Value}(hu:RC ok w u c)(hk:c.length=k)(ha:u.isAgg=a):(part T (x++c++y).toArray x.length).run P w=.ok (mk a c) w:=by
 unfold part;cases a with
 | true=>
  simp only[Sem.run_bind,WX t,Result.andThen_ok,if_true,run_sizeOf t.sz,Sem.run_pure];congr 1
  unfold mk;simp only[cond_true];congr 1
  apply Array.ext';rw[Array.toList_extract];simp only[List.extract,<- hk,Nat.add_sub_cancel_left];rw[laa,List.drop_left,List.take_left]
 | false=>
  have h1:c.length=1:=by
   rw[hu.len];cases u <;> first|rfl|simp[AV.isAgg] at ha
  obtain⟨v,rfl⟩:=List.length_eq_one_iff.1 h1;have h2:(x++[v]++y).toArray[x.length]?=some v:=by simp
  simp only[Sem.run_bind,WX t,Result.andThen_ok,Bool.false_eq_true,if_false,h2,Sem.run_pure];rfl
theorem LV {ok:Ok}{n:Nat}{ps:List AV}{u:Value}(h:RV ok w (.agg n ps) u):∃ cs:List Value,u=.agg cs.toArray/\RC ok w (.agg n ps) cs:=by
 have h:=(show RV0 ok w (.agg n ps) u from h);refine⟨u.cells.toList,?_,h.1⟩;have:=VJ h.2.symm;rw[this];simp[Value.cells]
theorem b2S {l:List (TypeId × Nat × Nat)}[t:TyS P S l]{T n:Nat}{ps:List AV}(h:AL P N ops Q s rest ((d,u)::e) m)(hx:ev e x=some (.agg n ps):=by exact rfl)(hi:l[i]?=some (T,off,z):=by exact rfl)(tT:Ty P T a z:=by infer_instance)(hv:jT a z 8 (.agg n ps) off=some u:=by exact rfl)(hd:Nat.blt d N=true:=by exact rfl) :
  AL P N ops Q s (⟨some d,.field S x i,ty,pos,af,none⟩::rest) e m:=by
 obtain⟨fs,hu,_,hfs⟩:=QK t.out;obtain⟨f,hfi,hft,hfo,hfz⟩:=hfs i T off z hi;subst hft;subst hfo;exact dR (λok w A _ hA=>by
  obtain⟨cs,h1,h2⟩:=LV (hA.eval hx);obtain⟨x',c,y,rfl,e2,e3,e4,e5⟩:=EH hv h2;have hr:=QT (P:=P) (w:=w) (x:=x') (y:=y) tT e4 e3 e5;exact⟨_,by simp only[execOp,h1,Instr.field,run_underlying hu,Sem.run_bind,Result.andThen_ok,hfi,asAgg,Sem.run_pure,<- e2,hr],RV.of0 (e5 ▸ RV0.mk e4)⟩) hd h
theorem EO [t:TyT P T]{i:Int}{b:Bs}{c:UInt8}(j:Nat)(h:AL P N ops Q s rest ((d,.lit (y8 c))::e) m)(hc:b[j]?=some c)(hx:ev e x=some (str b):=by exact rfl)(hi:ev e ix=some (.lit (.int kd i)):=by exact rfl)(hj:i=(j:Int):=by first|exact rfl|omega)(hd:Nat.blt d N=true:=by exact rfl) :
  AL P N ops Q s (⟨some d,.index T x ix,ty,pos,af,none⟩::rest) e m:=
 R8 rfl (λok w A hA=>by
  have h1:(⟨b.toArray⟩:ByteArray)[j]?=some c:=by
   obtain⟨hlt,he⟩:=List.getElem?_eq_some_iff.1 hc;have hlt':j<(⟨b.toArray⟩:ByteArray).size:=by rw[yQ];exact hlt
   rw[getElem?_pos (⟨b.toArray⟩:ByteArray) j hlt'];congr 1
  have h0:(0:Int)<=(j:Int):=om
  subst hj;simp only[execOp,hA.lit hx,hA.lit hi,Instr.index,asIntOf,Sem.run_bind,Sem.run_pure,Result.andThen_ok,run_underlying t.out,h0,if_true,Int.toNat_natCast,h1];rfl) hd h
theorem qY {ok:Ok}{id:Option Value}{u:Value}(h:RV ok w (.sl k xs id) u):∃ A c,u=.slice A xs.length c/\(∀ v,id=some v->v=u)/\xs.length<=c/\c<=maxLen /\
  (0<xs.length->∃ b o es,A=some ⟨b,o,none⟩/\es.length=xs.length*k/\At ok w b o es/\RCs ok w xs es)/\∀ x∈xs,x.size=k:=by
 have h:=(show RV0 ok w (.sl k xs id) u from h);obtain⟨h1,h2⟩:=h;rw[RC,HV h2.symm] at h1;obtain⟨A,c,g1,g2,g3⟩:=h1;have g1:u=.slice A xs.length c:=by simpa using g1
 exact⟨A,c,g1,λv hv=>by rw[g1];exact g2 v hv,g3⟩
theorem RV.sl {ok:Ok}{n:Nat}{A:Option Addr}{c:Nat}{id:Option Value}(hn:n=xs.length)(hid:∀ v,id=some v->v=.slice A n c)(h1:n<=c)(h2:c<=maxLen)(h3:0<n->∃ b o es,A=some ⟨b,o,none⟩/\es.length=n*k/\At ok w b o es/\RCs ok w xs es)(h4:∀ x∈xs,x.size=k) :
  RV ok w (.sl k xs id) (.slice A n c):=by
 subst hn;refine⟨?_,rfl⟩;rw[RC];exact⟨A,c,rfl,hid,h1,h2,h3,h4⟩
theorem b2L {b:Nat}[t:TyL P T E k b]{kz:Nat}{id:Option Value}(h:AL P N ops Q s rest ((d,int xs.length)::e) m)(hx:ev e x=some (.sl kz xs id):=by exact rfl)(hd:Nat.blt d N=true:=by exact rfl):AL P N ops Q s (⟨some d,.call ⟨.builtin .len,#[x],#[T]⟩,ty,pos,af,none⟩::rest) e m:=
 R8 rfl (λok w B hB=>by
  obtain⟨A,c,h1,_⟩:=qY (hB.eval hx);simp[execOp,resolve,invoke,builtin,h1,Builtin.len_,run_underlying t.out,goInt]) hd h
theorem b2K {b:Nat}[t:TyL P T E k b]{A:Option Addr}{n c:Nat}(h:AL P N ops Q s rest ((d,int n)::e) m)(hx:ev e x=some (.lit (.slice A n c)):=by exact rfl)(hd:Nat.blt d N=true:=by exact rfl):AL P N ops Q s (⟨some d,.call ⟨.builtin .len,#[x],#[T]⟩,ty,pos,af,none⟩::rest) e m:=
 R8 rfl (λok w B hB=>by simp[execOp,resolve,invoke,builtin,hB.lit hx,Builtin.len_,run_underlying t.out,goInt]) hd h
theorem a0z [t:TyL P S E k bS]{i:Int}{id:Option Value}(j:Nat)(h:AL P N ops Q s rest ((d,.pd u)::e) m)(hx:ev e x=some (.sl k xs id):=by exact rfl)(hi:ev e ix=some (.lit (.int kd i)):=by exact rfl)(hj:i=(j:Int):=by first|exact rfl|omega)(hu:xs[j]?=some u:=by exact rfl)(hd:Nat.blt d N=true:=by exact rfl) :
  AL P N ops Q s (⟨some d,.indexAddr S x ix,ty,pos,af,none⟩::rest) e m:=
 dR (λok w B _ hB=>by
  obtain⟨A,c,h1,_,h3,h4,h5,h6⟩:=qY (hB.eval hx);obtain⟨hlt,he⟩:=List.getElem?_eq_some_iff.1 hu;obtain⟨b,o,es,g1,g2,g3,g4⟩:=h5 om;obtain⟨x',c',y',rfl,f2,f3,f4⟩:=g4.at_ h6 hlt;have hin:(0:Int)<=(j:Int)/\(j:Int)<(xs.length:Nat):=by omega
  subst g1 hj;refine⟨.pointer (some ⟨b,o+j*k,none⟩),?_,RV.pd (by rw[<- f2];exact g3.mid) (he ▸ f4)⟩;simp only[execOp,h1,hB.lit hi,Instr.indexAt,asIntOf,Sem.run_bind,Sem.run_pure,Result.andThen_ok,run_underlying t.out,hin,and_self,if_true,run_sizeOf t.size,Int.toNat_natCast,add_mid]) hd h
theorem sJ [t:TyL P S E k bS]{i:Int}{α:Type}{f:α->AV}{l:List α}{id:Option Value}(j:Nat)(hlt:j<l.length)(h:AL P N ops Q s rest ((d,.pd (f l[j]))::e) m)(hx:ev e x=some (.sl k (l.map f) id):=by exact rfl)(hi:ev e ix=some (.lit (.int kd i)):=by exact rfl)(hj:i=(j:Int):=by first|exact rfl|omega)(hd:Nat.blt d N=true:=by exact rfl) :
  AL P N ops Q s (⟨some d,.indexAddr S x ix,ty,pos,af,none⟩::rest) e m:=a0z j h hx hi hj (by simp[hlt]) hd
def qM (e:Env)(n:Nat):Option Operand->Option Int
 | none=>some n
 | some x=>(match ev e x with|some (.lit (.int _ i))=>some i|_=>none)
theorem zP {n:Nat}{x:Option Operand}{B:Act}{ok:Ok}(hB:Sat N ok w e B)(h:qM e n x=some (i:Int)):(x.map B.eval=none/\i=n)\/∃ kd,x.map B.eval=some (.int kd (i:Int)):=by
 cases x with
 | none=>simp[qM] at h;exact .inl ⟨rfl,om⟩
 | some y=>
  simp only[qM] at h;split at h
  ·rename_i kd j hy;injection h with h
   subst h;exact .inr ⟨kd,by simp[hB.lit hy]⟩
  cases h
theorem RCs.sub {ok:Ok}{lo hi:Nat}{cs:List Value}(h:RCs ok w xs cs)(hk:∀ x∈xs,x.size=k)(h1:lo<=hi)(h2:hi<=xs.length):∃ x c y,cs=x++c++y/\x.length=lo*k/\c.length=(hi-lo)*k/\RCs ok w ((xs.take hi).drop lo) c:=by
 have he:xs=(xs.take hi).take lo++((xs.take hi).drop lo++xs.drop hi):=by
  rw[<- laa,List.take_append_drop,List.take_append_drop]
 rw[he] at h;obtain⟨x,d,rfl,g1,g2⟩:=h.split;obtain⟨c,y,rfl,g3,g4⟩:=g2.split;refine⟨x,c,y,sm,?_,?_,g3⟩
 ·rw[g1.len (λa ha=>hk a (List.mem_of_mem_take (List.mem_of_mem_take ha)))];rw[show (List.take lo (List.take hi xs)).length=lo by simp;omega]
 rw[g3.len (λa ha=>hk a (List.mem_of_mem_take (List.mem_of_mem_drop ha)))];rw[show (List.drop lo (List.take hi xs)).length=hi-lo by simp;omega]
theorem vK [t:TyL P S E k bS]{xh:Option Operand}{id:Option Value}(lo hi:Nat)(h:AL P N ops Q s rest ((d,.sl k ((xs.take hi).drop lo) none)::e) m)
  (hx:ev e x=some (.sl k xs id):=by exact rfl) (hl:qM e 0 xl=some il:=by exact rfl) (hh:qM e xs.length xh=some ih:=by exact rfl) (h1:il=(lo:Int):=by first|exact rfl|omega) (h2:ih=(hi:Int):=by first|exact rfl|omega) (h3:lo<=hi:=by omega) (h4:hi<=xs.length:=by first|omega|(simp;omega)) (hd:Nat.blt d N=true:=by exact rfl):AL P N ops Q s (⟨some d,.slice S x xl xh none,ty,pos,af,none⟩::rest) e m:=
 dR (λok w B _ hB=>by
  obtain⟨A,c,g1,_,g3,g4,g5,g6⟩:=qY (hB.eval hx);subst h1 h2;have hb:=QU (P:=P) (w:=w) (sl:=true) (zP hB hl) (zP hB hh) h3 (show hi<=c by omega);have hn:hi-lo=((xs.take hi).drop lo).length:=by simp;omega
  refine⟨.slice (if c=lo then A else A.map (·.add (lo*k))) (hi-lo) (c-lo),?_,?_⟩
  ·simp only[execOp,g1,Instr.sliceAt,Instr.slice,Sem.run_bind,run_underlying t.out,Result.andThen_ok,Option.map_none,hb,run_sizeOf t.size,Sem.run_pure]
  refine RV.sl hn sm om om (λhp=>?_) (λx hx=>g6 x (List.mem_of_mem_take (List.mem_of_mem_drop hx)));obtain⟨b,o,es,f1,f2,f3,f4⟩:=g5 om;obtain⟨x',c',y',rfl,e2,e3,e4⟩:=f4.sub g6 h3 h4;refine⟨b,o+lo*k,c',?_,e3,by rw[<- e2];exact f3.mid,e4⟩;subst f1;rw[if_neg om];simp[add_mid]) hd h
theorem b2c [t:TyL P S E k bS]{xh xm:Operand}{kd':IntKind}{id:Option Value}(lo hi:Nat)(h:∀ A,AL P N ops Q s rest ((d,.sl k ((xs.take hi).drop lo) (some (.slice A (hi-lo) (hi-lo))))::e) (.tail E k (.slice A (hi-lo) (hi-lo))::m))
  (hx:ev e x=some (.sl k xs id):=by exact rfl) (hl:qM e 0 xl=some il:=by exact rfl) (hh:ev e xh=some (.lit (.int kd ih)):=by exact rfl) (hm:ev e xm=some (.lit (.int kd' ih)):=by exact rfl) (h1:il=(lo:Int):=by first|exact rfl|omega) (h2:ih=(hi:Int):=by first|exact rfl|omega) (h3:lo<=hi:=by omega) (h4:hi<=xs.length:=by first|omega|(simp;omega)) (hd:Nat.blt d N=true:=by exact rfl):AL P N ops Q s (⟨some d,.slice S x xl (some xh) (some xm),ty,pos,af,none⟩::rest) e m:=
 mK (λok w B hS hB=>by
  obtain⟨A,c,g1,_,g3,g4,g5,g6⟩:=qY (hB.eval hx);subst h1 h2;have hb:(Instr.sliceBounds true xs.length c (xl.map B.eval) (some (.int kd (hi:Int))) (some (.int kd' (hi:Int)))).run P w=.ok (lo,hi,hi) w:=by
   have hc:hi<=c:=om
   rcases zP hB hl with⟨e1,rfl⟩|⟨kd,e1⟩ <;> rw[e1] <;> simp[Instr.sliceBounds,Instr.sliceBound,asIntOf,h3,hc]
  have hn:hi-lo=((xs.take hi).drop lo).length:=by simp;omega
  refine⟨_,.slice (if hi=lo then A else A.map (·.add (lo*k))) (hi-lo) (hi-lo),w,ok,_,?_,?_,hS.full E k (if hi=lo then A else A.map (·.add (lo*k))) (hi-lo),Stp.refl _ _,h _⟩
  ·simp only[execOp,g1,hB.lit hh,hB.lit hm,Instr.sliceAt,Instr.slice,Sem.run_bind,run_underlying t.out,Result.andThen_ok,Option.map_some,hb,run_sizeOf t.size,Sem.run_pure]
  refine RV.sl hn (λv hv=>by injection hv with hv;exact hv.symm) om om (λhp=>?_) (λx hx=>g6 x (List.mem_of_mem_take (List.mem_of_mem_drop hx)));obtain⟨b,o,es,f1,f2,f3,f4⟩:=g5 om;obtain⟨x',c',y',rfl,e2,e3,e4⟩:=f4.sub g6 h3 h4;refine⟨b,o+lo*k,c',?_,e3,by rw[<- e2];exact f3.mid,e4⟩;subst f1;rw[if_neg om];simp[add_mid]) hd
theorem dG [t:TyT P S]{xh:Option Operand}{a:Bs}(lo hi:Nat)(h:AL P N ops Q s rest ((d,str ((a.take hi).drop lo))::e) m)
  (hx:ev e x=some (str a):=by exact rfl) (hl:qM e 0 xl=some il:=by exact rfl) (hh:qM e a.length xh=some ih:=by exact rfl) (h1:il=(lo:Int):=by first|exact rfl|omega) (h2:ih=(hi:Int):=by first|exact rfl|omega) (h3:lo<=hi:=by omega) (h4:hi<=a.length:=by first|omega|(simp;omega)) (hd:Nat.blt d N=true:=by exact rfl):AL P N ops Q s (⟨some d,.slice S x xl xh none,ty,pos,af,none⟩::rest) e m:=
 R8 rfl (λok w B hB=>by
  subst h1 h2;have hb:=QU (P:=P) (w:=w) (sl:=false) (zP hB hl) (zP hB hh) h3 h4;have he:(⟨a.toArray⟩:ByteArray).extract lo hi=⟨((a.take hi).drop lo).toArray⟩:=by
   apply ByteArray.ext;rw[ByteArray.data_extract];apply Array.ext';simp[List.drop_take]
  simp only[execOp,hB.lit hx,Instr.sliceAt,Instr.slice,Sem.run_bind,run_underlying t.out,Result.andThen_ok,Option.map_none,yQ,hb,Sem.run_pure,Option.isSome_none,Bool.false_eq_true,if_false,he]) hd h
theorem FD {op:BinOp}{a b:Value}{r c:Bool}{A:Act}(hx:A.eval x=a)(hy:A.eval y=b)(hne:∀ k n,a≠.int k n)(hne2:∀ s,a≠.string s)(hne3:∀ k n,a≠.float k n)(hne4:∀ k m n,a≠.complex k m n)
  (hg:(eqGuard op T x y a b).run P w=.ok () w) (hr:(Op.equal T a b).run P w=.ok r w) (hc:yC op r=some c):(execOp A.eval ⟨some d,.binOp op T x y yT,ty,pos,af,none⟩).run P w=.ok (.value (.bool c)) w:=by
 have hb:(binOp op T a b).run P w=.ok (.bool c) w:=by
  cases op <;> (first|(cases hc;done)|skip)
  ·injection hc with hc
   subst hc;cases a <;> first|exact absurd rfl (hne _ _)|exact absurd rfl (hne2 _)|exact absurd rfl (hne3 _ _)|exact absurd rfl (hne4 _ _ _)|(simp[binOp,hr])
  injection hc with hc
  subst hc;cases a <;> first|exact absurd rfl (hne _ _)|exact absurd rfl (hne2 _)|exact absurd rfl (hne3 _ _)|exact absurd rfl (hne4 _ _ _)|(simp[binOp,hr])
 simp[execOp,hx,hy,hg,hb]
theorem b2l {op:BinOp}[t:TyP P T E]{p:Option Addr}{c:Bool}(h:AL P N ops Q s rest ((d,d9 c)::e) m)(hx:ev e x=some (.lit (.pointer p)):=by exact rfl)(hy:ev e y=some (.lit (.pointer none)):=by exact rfl)(hc:yC op p.isNone=some c:=by exact rfl)(hd:Nat.blt d N=true:=by exact rfl):AL P N ops Q s (⟨some d,.binOp op T x y yT,ty,pos,af,none⟩::rest) e m:=
 R8 rfl (λok w A hA=>FD (hA.lit hx) (hA.lit hy) sm sm sm sm (by unfold eqGuard;cases op <;> rfl) (by
  have h:∀ d:Nat,(Op.equalIn (d+1) T (.pointer p) (.pointer none)).run P w=.ok p.isNone w:=λd=>by cases p <;> simp[Op.equalIn,run_underlying t.out]
  exact h 9999) hc) hd h
theorem Eo {op:BinOp}{b kz:Nat}[t:TyL P T E k b]{id:Option Value}(h:∀ q c,(q=true->xs=[])->yC op q=some c->AL P N ops Q s rest ((d,d9 c)::e) m)(hx:ev e x=some (.sl kz xs id):=by exact rfl)(hy:ev e y=some (.lit (.slice none 0 0)):=by exact rfl)(ho:(yC op true).isSome=true:=by exact rfl)(hd:Nat.blt d N=true:=by exact rfl):AL P N ops Q s (⟨some d,.binOp op T x y yT,ty,pos,af,none⟩::rest) e m:=
 mK (λok w A hS hA=>by
  obtain⟨p,c,g1,_,g3,g4,g5,g6⟩:=qY (hA.eval hx);have hq:p.isNone=true->xs=[]:=λhp=>by
   rcases Nat.eq_zero_or_pos xs.length with h0|h0
   ·exact List.eq_nil_of_length_eq_zero h0
   obtain⟨_,_,_,f1,_⟩:=g5 h0;rw[f1] at hp;simp at hp
  have he:∃ c,yC op p.isNone=some c:=by
   cases op <;> simp[yC] at ho ⊢
  obtain⟨c',hc⟩:=he;exact⟨_,_,w,ok,m,FD g1 (hA.lit hy) sm sm sm sm (by unfold eqGuard;cases op <;> rfl) (by
   have h:∀ d:Nat,(Op.equalIn (d+1) T (.slice p xs.length c) (.slice none 0 0)).run P w=.ok p.isNone w:=λd=>by cases p <;> simp[Op.equalIn,run_underlying t.out]
   exact h 9999) hc,RVl rfl,hS,Stp.refl _ _,h _ _ hq hc⟩) hd
theorem b2O {n:Nat}[t:TyA P T n E k]{g:Nat}{i:Int}(h:AL P N ops Q s rest ((d,.lit (.pointer (some ⟨g,o+i.toNat*k,none⟩)))::e) m)(hx:ev e x=some (.lit (.pointer (some ⟨g,o,none⟩))):=by exact rfl)(hi:ev e ix=some (.lit (.int kd i)):=by exact rfl)(hj:i=Int.ofNat i.toNat:=by exact rfl)(hlt:Nat.blt i.toNat n=true:=by exact rfl)(hd:Nat.blt d N=true:=by exact rfl) :
  AL P N ops Q s (⟨some d,.indexAddr T x ix,ty,pos,af,none⟩::rest) e m:=by
 have hlt':i.toNat<n:=nlb hlt;have hin:(0:Int)<=i/\i<(n:Nat):=by have:i=(i.toNat:Int):=hj;omega
 exact R8 rfl (λok w B hB=>by
  simp only[execOp,hB.lit hx,hB.lit hi,Instr.indexAt,asIntOf,Instr.sureAddr,Sem.run_bind,Sem.run_pure,Result.andThen_ok,run_underlying t.out,hin,and_self,if_true,run_sizeOf t.sz,add_mid]) hd h
end
end
end Av
