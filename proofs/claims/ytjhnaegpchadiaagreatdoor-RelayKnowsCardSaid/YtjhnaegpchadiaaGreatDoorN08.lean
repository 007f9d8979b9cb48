/- . -/
import Derived.Lib.AppendZerosOnto
import Derived.Laws.Externs
import Derived.Lib.Overlaps
import Derived.Test.YtjhnaegpchadiaaGreatDoorN07
namespace Av
open Go Go.RowKit Tw
@[simp] theorem b0Y {α:Type}(xs:List α)(j:Nat)(zs:List α):(over xs j zs).length=min j xs.length+zs.length+(xs.length-(j+zs.length)):=by simp[over,Nat.add_assoc]
theorem NB (z:Array Value):∀ n,(Builtin.zeroCells z n).toList=(List.replicate n z.toList).flatten
 | 0=>by simp[Builtin.zeroCells]
 | n+1=>by
  have ih:=NB z n;have h1:∀ m,(Builtin.zeroCells z m).toList=(List.range (m*z.size)).map fun i=>z[i%z.size]!:=fun m=>by
   simp[Builtin.zeroCells,Array.toList_range]
  rw[h1] at ih;rw[h1,Nat.add_mul,Nat.one_mul,List.range_add,List.map_append,ih,List.replicate_succ',List.flatten_append];congr 1
  simp only[List.map_map,List.flatten_cons,List.flatten_nil,List.append_nil];apply List.ext_getElem
  ·simp
  ·intro i h1 h2;have hi:i<z.size:=by simpa using h1
   simp[Nat.mod_eq_of_lt hi,hi]
theorem RCs.replicate {ok:Ok}{w:World}{z:AV}{c:List Value}(h:RC ok w z c):∀ n,RCs ok w (List.replicate n z) (List.replicate n c).flatten
 | 0=>by rw[List.replicate_zero,RCs];rfl
 | n+1=>by
  rw[List.replicate_succ,List.replicate_succ,List.flatten_cons,RCs];exact⟨c,_,rfl,h,RCs.replicate h n⟩
def ImpC (a b:AV):Prop:=∀ ok w cs,RC ok w a cs->RC ok w b cs
theorem ImpC.nil {k:Nat}:ImpC (.lit (.slice none 0 0)) (.sl k [] none):=fun ok w cs h=>by
 rw[RC] at h;rw[RC];exact⟨none,0,h.1,sm,Nat.le_refl _,by simp[maxLen],sm,sm⟩
theorem ImpC.agg1 {n:Nat}{a b:AV}(h:ImpC a b):ImpC (.agg n [a]) (.agg n [b]):=fun ok w cs hh=>by
 rw[RC] at hh;obtain⟨h1,hh⟩:=hh;rw[RCs] at hh;obtain⟨c1,c2,rfl,h2,h3⟩:=hh;rw[RC];refine⟨h1,?_⟩;rw[RCs];exact⟨c1,c2,rfl,h ok w c1 h2,h3⟩
theorem St.asVar {s:Base}{ok:Ok}{w:World}{g:Nat}{T:TypeId}{v v':AV}{pre post:List Piece}(hi:ImpC v v')(h:St s ok (pre++.var g T v::post) w):St s ok (pre++.var g T v'::post) w:=by
 obtain⟨cs,h1,h2⟩:=h.at_ (.var g T v) sm;have hpm:Piece.var g T v∈pre++.var g T v::post:=by simp
 exact h.write (g:=g) rfl (.inl rfl) (Stp.refl _ _) ⟨cs,h1,hi _ _ _ h2⟩ (fun b j hb=>h.own _ hpm b j hb) rfl rfl rfl rfl (fun _ _=>rfl) (fun _ _ _=>Iff.rfl)
section
variable {P:Program} {N:Nat} {ops:Array Oper} {Q:Exit->Act->World->Prop} {rest:List Oper} {s:Base} {e:Env} {m:List Piece} {d:Nat} {ty:TypeId} {pos:String} {af:Array Edge}
theorem Nn {l:List Oper}{g:Nat}{T:TypeId}{v v':AV}{m':List Piece}(hi:ImpC v v')(h:AL P N ops Q s l e m')(hm:Upd m (.var g T v) (.var g T v') m':=by (repeat (first|apply Av.Upd.here|apply Av.Upd.there))):AL P N ops Q s l e m:=AL.mk fun ok w a hS ha=>by
 obtain⟨pre,post,rfl,rfl⟩:=hm.parts;exact h.run ok w a (hS.asVar hi) ha
theorem gK {c:Code}{g:Nat}{T:TypeId}{v v':AV}{m':List Piece}(hi:ImpC v v')(h:AC P N c Q s e m')(hm:Upd m (.var g T v) (.var g T v') m':=by (repeat (first|apply Av.Upd.here|apply Av.Upd.there))):AC P N c Q s e m:=AC.mk fun ok w a hS ha=>by
 obtain⟨pre,post,rfl,rfl⟩:=hm.parts;exact h.run ok w a (hS.asVar hi) ha
theorem GM {x:Exit}{g:Nat}{T:TypeId}{v v':AV}{m':List Piece}(hi:ImpC v v')(h:AE N x Q s e m')(hm:Upd m (.var g T v) (.var g T v') m':=by (repeat (first|apply Av.Upd.here|apply Av.Upd.there))):AE N x Q s e m:=AE.mk fun ok w a hS ha=>by
 obtain⟨pre,post,rfl,rfl⟩:=hm.parts;exact h.run ok w a (hS.asVar hi) ha
theorem Np {T Tn E:TypeId}{k b:Nat}[t:TyE P T E k b]{kn:IntKind}[ti:TyI P Tn kn]{zv:AV}[tz:TyO P E zv]{xo ko:Operand}{g i c:Nat}{qi:Int}{xs:List AV}(q:Nat)(h:∀ g' c',i+q<=c'->AL P N ops Q s rest ((d,.lit (.slice (some ⟨g',0,none⟩) (i+q) c'))::e) (.buf g' E k (xs.take i++List.replicate q zv) c'::m))
  (hx:ev e xo=some (.lit (.slice (some ⟨g,0,none⟩) i c)):=by exact rfl) (hk:ev e ko=some (int qi):=by exact rfl) (hq:qi=(q:Int):=by first|exact rfl|omega) (hm:Has m (.buf g E k xs c):=by (repeat (first|exact Av.Has.here|apply Av.Has.there))) (hi:i<=xs.length:=by first|omega|(simp;done)|(simp;omega)) (hc:c<i+q:=by omega) (h0:0<q:=by omega)
  (hb:(i+q)*b<=140737488355328:=by first|omega|(simp;done)|(simp;omega)) (hl:i+q<=maxLen:=by first|(simp[maxLen];done)|(simp[maxLen];omega)) (hd:Nat.blt d N=true:=by exact rfl) :
  AL P N ops Q s (⟨some d,.call ⟨.builtin .append,#[xo,ko],#[T,Tn]⟩,ty,pos,af,none⟩::rest) e m:=by
 subst hq;refine iD (fun ok w B hS hB=>?_) hd;obtain⟨iz,z,q1,q2,hzk,hik,hib⟩:=t.zero;obtain⟨cs1,cs2,a1,a2,a3,a4,a5⟩:=hS.at_ _ hm.mem;have hcl:=a2.len a3;have h1:=a2.take a3 hi;have hik':i*k<=cs1.length:=by rw[hcl];exact Nat.mul_le_mul_right k hi
 have hl1:(cs1.take (i*k)).length=i*k:=by simp;omega
 have hkp:0<k:=nlb t.k0;have hzc:∃ cz,bT 8 zv=some cz/\z.cells.toList=cz:=by
  have e1:=tz.out;have e2:=tz.is;cases hz:bT 8 zv with
  | none=>simp[hz] at e2
  | some cz=>
   simp[q1,q2,hz] at e1;exact⟨cz,rfl,e1.1⟩
 obtain⟨cz,hz1,hz2⟩:=hzc;have hf:(Builtin.firstCells iz.size i (.slice (some ⟨g,0,none⟩) i c)).run P w.drew=.ok (cs1.take (i*k)).toArray w.drew:=by
  refine run_firstCells_some (P:=P) w.drew iz.size _ ⟨g,0,none⟩ i c _ (by rw[hl1,hik]) (fun j v hj=>?_);rw[add_mid];show w.cell? _=some v;rw[cell_of_row _ _ _ _ _ _ a1];have hlt:=(List.getElem?_eq_some_iff.1 hj).1;rw[List.getElem?_take_of_lt om] at hj;simp only[Nat.zero_add,List.getElem?_toArray];rw[List.getElem?_append_left om];exact hj
 have hsm:i+q<=9223372036854775807:=by simpa[maxLen] using hl
 have hqb:q*b<=(i+q)*b:=Nat.mul_le_mul_right b om;have hr:=Go.Lib.run_append_grow_zeros (P:=P) w T Tn ty E iz z .i64 kn t.l.out ti.out q1 q2 (some ⟨g,0,none⟩) i c _ hf q h0 om hc om (by rw[hib];omega) (by rw[hib];exact growslice_fits hc hb);have hge:=grownCap_ge w (i+q) c E;have hle:=grownCap_le_maxLen w (i+q) c E hl;generalize grownCap w (i+q) c E=c' at hr hge hle;have hE:Ext w (w.drew.alloc (.cells ((cs1.take (i*k)).toArray++Builtin.zeroCells z.cells q++Builtin.zeroCells z.cells (c'-(i+q))) E)):=Ext.trans' (Ext.drew w) (Ext.alloc w.drew _);have hblk:(w.drew.alloc (.cells ((cs1.take (i*k)).toArray++Builtin.zeroCells z.cells q++Builtin.zeroCells z.cells (c'-(i+q))) E)).heap[w.heap.size]?=some (.cells ((cs1.take (i*k)++(List.replicate q cz).flatten)++(Builtin.zeroCells z.cells (c'-(i+q))).toList).toArray E (0,0)):=by
  have e1:=NB z.cells q;rw[hz2] at e1;rw[<- e1,show ((cs1.take (i*k)++(Builtin.zeroCells z.cells q).toList)++(Builtin.zeroCells z.cells (c'-(i+q))).toList).toArray=(cs1.take (i*k)).toArray++Builtin.zeroCells z.cells q++Builtin.zeroCells z.cells (c'-(i+q)) by apply Array.ext';simp];exact heap_alloc_new w.drew _
 have hzr:=BM (ok:=ok) (w:=w) hz1;have hzs:zv.size=k:=by rw[<- hzr.len,<- hz2,<- hzk];simp
 obtain⟨ok',r1,r2⟩:=St.newBuf hS hE sm hblk (h1.append (RCs.replicate hzr q)) (fun x hx=>(List.mem_append.1 hx).elim (fun h=>a3 x (List.mem_of_mem_take h)) (fun h=>by rw[(List.mem_replicate.1 h).2];exact hzs)) (c:=c') (by
  have e2:((List.replicate q cz).flatten).length=q*k:=by
   rw[<- hz2,<- NB];simp[hzk,size_zeroCells]
  simp only[List.length_append,hl1,e2,Array.length_toList,size_zeroCells,hzk,<- Nat.add_mul];congr 1
  omega) hle
 have hg1:=hB.lit hx;have hg2:=hB.lit hk;exact⟨_,.slice (some ⟨w.heap.size,0,none⟩) (i+q) c',_,ok',_,by simp[execOp,resolve,invoke,builtin,hg1,hg2,hr],RVl rfl,r1,r2,h _ _ hge⟩
theorem a4V {op:Op}{m':List Piece}(hrun:∀ ok w a,St s ok m w->Sat N ok w e a->∃ u w' ok',(execOp a.eval ⟨none,op,ty,pos,af,none⟩).run P w=.ok (.value u) w'/\St s ok' m' w'/\Stp ok w ok' w')(h:AL P N ops Q s rest e m') :
  AL P N ops Q s (⟨none,op,ty,pos,af,none⟩::rest) e m:=AL.mk fun ok w a hS ha=>
 wpList_plain rfl fun K hK=>by
  obtain⟨u,w',ok',h1,h3,h4⟩:=hrun ok w a hS ha;unfold Oper.wp;rw[h1];exact hK _ _ (h.run _ _ _ h3 (ha.stp h4))
theorem GI {f : FuncId} {fn : Func} {en : Array Value → Sem Value} {xs : List Operand} {ts : Array TypeId} {args : List AV} {v : AV} (hf : P.funcs[f]? = some fn) (hn : (fn.name == "runtime.NumGoroutine") = false) (hb : fn.body.isNone = true) (hx : Extern.findNext fn = none) (he : Extern.find fn = some en)
  (ha:N9 e xs=some args) (hnt:args.all R5=true) (hd:Nat.blt d N=true) (hr:∀ ok w cs,St s ok m w->RVs ok w args cs->∃ u,(en cs.toArray).run P w=.ok u w/\RV ok w v u) (h:AL P N ops Q s rest ((d,v)::e) m):AL P N ops Q s (⟨some d,.call ⟨.value (.func f),xs.toArray,ts⟩,ty,pos,af,none⟩::rest) e m:=
 bF (fun ok w a hS hA=>by
  have hev:a.eval (.func f)=.func (.func f) #[] #[]:=rfl;obtain⟨u,h1,h2⟩:=hr ok w _ hS (hA.evals ha hnt);have hc:=run_callFunc_extern (P:=P) hf hn hb hx he (xs.map a.eval).toArray w;exact⟨u,by simp[execOp,resolve,hev,Deferred.ofValue,invoke,hc,h1],h2⟩) hd h
theorem Vw {s:Base}{ok:Ok}{m:List Piece}{w:World}{g o n cc c k g2 o2 n2 cc2 c2:Nat}{E tS:TypeId}{b:Nat}{xs ys:List AV}{cs:List Value}[t:TyE P tS E k b](tR:TypeId)(hS:St s ok m w)(hne:g≠g2)(hm:Piece.buf g E k xs c∈m)(hm2:Piece.buf g2 E k ys c2∈m)(hx:0<ys.length)(hv:RVs ok w [.lit (.slice (some ⟨g,o,none⟩) n cc),.lit (.slice (some ⟨g2,o2,none⟩) n2 cc2)] cs) :
  (Extern.SlicesOverlaps.overlaps #[tS,tS] #[tR] cs.toArray).run P w=.ok (.bool false) w:=by
 obtain⟨u1,us,rfl,h1,u2,us2,rfl,h2,rfl⟩:=hv;obtain rfl:=RV0.lit h1;obtain rfl:=RV0.lit h2;obtain⟨cs1,cs2,a1,a2,a3,a4,a5⟩:=hS.at_ _ hm;obtain⟨ds1,ds2,b1,b2,b3,b4,b5⟩:=hS.at_ _ hm2;have hk:0<k:=nlb t.k0;have hsz:0<ds1.length:=by rw[b2.len b3];exact Nat.mul_pos hx hk
 exact Go.Lib.run_overlaps_apart w tS tR E t.l.out k (fun _=>run_sizeOf t.l.size) ⟨g,o,none⟩ ⟨g2,o2,none⟩ n cc n2 cc2 hne E E (cs1.length+cs2.length) (ds1.length+ds2.length) (by simp[World.shape?,a1]) (by simp[World.shape?,b1]) om (by simp[World.frozen?,a1]) (by simp[World.frozen?,a1])
theorem a3K {s:Base}{ok:Ok}{w:World}{pre mid post:List Piece}{g g2:Nat}{E:TypeId}{k c c2:Nat}{xs ys:List AV}(hS:St s ok (pre++.buf g E k xs c::(mid++.buf g2 E k ys c2::post)) w):g≠g2:=by
 have h:=hS.dis;rw[List.pairwise_append] at h;have h1:=h.2.1;rw[List.pairwise_cons] at h1;have h2:=h1.1 (.buf g2 E k ys c2) sm g rfl;rintro rfl;exact h2 rfl
theorem Nk {T E:TypeId}{k b:Nat}[t:TyE P T E k b]{n:Nat}{parts:List (Nat × Operand)}{vals:List AV}(h:∀ g,AL P N ops Q s rest ((d,.lit (.slice (some ⟨g,0,none⟩) n n))::e) (.buf g E k vals n::m))(hx:N9 e (parts.map (·.2))=some vals:=by exact rfl)
  (hi:parts.map (·.1)=List.range n:=by exact rfl) (hk:vals.all (fun v=>Nat.beq v.size k)=true:=by exact rfl) (hn:vals.all R5=true:=by exact rfl) (hs:Nat.ble (n*k) 65536=true:=by exact rfl) (hn0:Nat.blt 0 n=true:=by exact rfl) (hd:Nat.blt d N=true:=by exact rfl) :
  AL P N ops Q s (⟨some d,.buildSlice T n parts.toArray,ty,pos,af,none⟩::rest) e m:=by
 have hkv:∀ v∈vals,v.size=k:=fun z hz=>Nat.eq_of_beq_eq_true (List.all_eq_true.1 hk z hz);have hkp:0<k:=nlb t.k0;have hnp:0<n:=nlb hn0;have hnk:n*k<=65536:=nlb hs;refine iD (fun ok w A hS hA=>?_) hd;obtain⟨vs,hvs,hmap⟩:=FF hA hx hn;have hpv:=PR.of_vs hvs;have hlv:=hpv.length;have hsv:=hpv.sizes hkv;have hlen:vs.length=n:=by
  have h1:((parts.map (·.2)).map A.eval).length=vs.length:=by rw[hlv,(hA.evals hx hn).length.symm]
  have h2:(parts.map (·.1)).length=n:=by rw[hi];simp
  simp at h1 h2;omega
 obtain⟨i,z,q1,q2,hzk,_,_⟩:=t.zero;have hzr:(zeroValue E).run P w=.ok z w:=by simp[zeroValue,typeInfo,q1,q2]
 subst hlen;have hcells:((Array.range (vs.length*k)).map (z.cells[· % z.cells.size]!))=(fl (List.replicate vs.length (.agg z.cells))).toArray:=by
  apply Array.ext';rw[LH z.cells (v:=.agg z.cells) rfl,hzk];simp
 have hset:=IY (z:=.agg z.cells) vs [] (fun v hv=>by rw[hsv v hv];exact hzk);simp only[List.nil_append,List.length_nil] at hset;have hfill:=(BA (place:=fun i=>some (i*k,k)) (by
  intro i u hiu;obtain⟨hil,hie⟩:=List.getElem?_eq_some_iff.1 hiu;rw[List.getElem_replicate] at hie;subst hie;have hil':i<vs.length:=by simpa using hil
  rw[yB (k:=k) (fun x hx=>by
   have:=List.mem_of_mem_take hx;rw[List.mem_replicate] at this;rw[this.2];exact hzk)]
  simp[Nat.min_eq_left (Nat.le_of_lt hil')];exact hzk.symm) hset).1
 have hE:=Ext.alloc w (.cells (fl vs).toArray E);have hblk:(w.alloc (.cells (fl vs).toArray E)).heap[w.heap.size]?=some (.cells ((fl vs)++[]).toArray E (0,0)):=by rw[List.append_nil];exact heap_alloc_new w _
 have hcl:(fl vs).length=vs.length*k:=yB hsv;obtain⟨ok',r1,r2⟩:=St.newBuf hS hE sm hblk (hpv.cells) hkv (c:=vs.length) (by simp[hcl]) (by
  have:vs.length<=vs.length*k:=Nat.le_mul_of_pos_right _ hkp;simp only[maxLen];omega)
 refine⟨_,.slice (some ⟨w.heap.size,0,none⟩) vs.length vs.length,w.alloc (.cells (fl vs).toArray E),ok',_,?_,RVl rfl,r1,r2,h _⟩;have h0:¬ vs.length*k > 2 ^ 24:=by omega
 have h1:¬ vs.length*k=0:=by
  have:=Nat.mul_pos hnp hkp;omega
 have hmap':(Array.map (fun (x:Nat × Operand)=>(x.fst,A.eval x.snd)) parts.toArray).toList=(List.range' 0 vs.length).zip vs:=by rw[hmap,hi,List.range_eq_range']
 simp only[execOp,Instr.buildSlice,Sem.run_bind,run_underlying t.l.out,Result.andThen_ok,run_sizeOf t.l.size,h0,h1,if_false,Sem.run_pure,hzr];rw[hmap',hcells,hfill];simp[newRow,newObj,Sem.run]
end

section lists
variable {α:Type}
def aO (T:List α):List Nat->Option (List α)
 | []=>some []
 | q::F=>(match T[q]?,aO T F with
  | some p,some ps=>some (p::ps)
  | _,_=>none)
def R8 (T:List α):List Nat->List α->List α
 | q::F,p::D=>R8 (T.set q p) F D
 | _,_=>T
def bZ:Nat->List Nat->Bool
 | _,[]=>true
 | lo,q::F=>Nat.ble lo q&&bZ (q+1) F
theorem ZG:∀ {lo:Nat} {F:List Nat},bZ lo F=true->∀ q∈F,lo<=q
 | _,[],_=>by simp
 | lo,q::F,h=>by
  simp only[bZ,Bool.and_eq_true] at h;have h1:=nlb h.1;intro r hr;rcases List.mem_cons.1 hr with rfl|hr
  ·exact h1
  ·have:=ZG h.2 r hr;omega
theorem iN:∀ {F:List Nat} {D T:List α},(R8 T F D).length=T.length
 | [],D,T=>by cases D <;> rfl
 | q::F,[],T=>rfl
 | q::F,p::D,T=>by rw[R8,iN];simp
theorem pE:∀ {F:List Nat} {D T:List α} {q:Nat},q ∉ F->(R8 T F D)[q]?=T[q]?
 | [],D,T,q,_=>by cases D <;> rfl
 | r::F,[],T,q,_=>rfl
 | r::F,p::D,T,q,h=>by
  simp only[List.mem_cons,not_or] at h;rw[R8,pE h.2,List.getElem?_set_ne (Ne.symm h.1)]
theorem IZ:∀ {F:List Nat} {D T T':List α} {q lo:Nat},bZ lo F=true->F.length=D.length->q∈F->q<T.length->q<T'.length->(R8 T F D)[q]?=(R8 T' F D)[q]?
 | [],_,_,_,_,_,_,_,h,_,_=>by simp at h
 | r::F,[],_,_,_,_,_,h,_,_,_=>by simp at h
 | r::F,p::D,T,T',q,lo,hr,hl,hq,h1,h2=>by
  simp only[bZ,Bool.and_eq_true] at hr;rw[R8,R8];by_cases hF:q∈F
  ·exact IZ hr.2 (by simpa using hl) hF (by simpa using h1) (by simpa using h2)
  ·have:q=r:=by
    rcases List.mem_cons.1 hq with h|h
    ·exact h
    ·exact absurd h hF
   subst this;rw[pE hF,pE hF,List.getElem?_set_self h1,List.getElem?_set_self h2]
theorem xX {T:List α}:∀ {F:List Nat} {C:List α},aO T F=some C->F.length=C.length/\∀ q∈F,q<T.length
 | [],C,h=>by simp[aO] at h;subst h;simp
 | q::F,C,h=>by
  unfold aO at h;split at h
  ·rename_i p ps h1 h2;injection h with h
   subst h;obtain⟨g1,g2⟩:=xX h2;refine⟨by simp[g1],fun r hr=>?_⟩;rcases List.mem_cons.1 hr with rfl|hr
   ·exact(List.getElem?_eq_some_iff.1 h1).1
   ·exact g2 r hr
  ·cases h
theorem SQ {T T':List α}:∀ {F:List Nat},(∀ q∈F,T[q]?=T'[q]?)->aO T F=aO T' F
 | [],_=>rfl
 | q::F,h=>by
  unfold aO;rw[h q sm,SQ (fun r hr=>h r (by simp[hr]))]
theorem Fe {k:Nat}:∀ {F:List Nat} {pre X:List α},pre.length=k->(∀ q∈F,k<=q)->aO (pre++X) F=aO X (F.map (· - k))
 | [],_,_,_,_=>rfl
 | q::F,pre,X,hp,h=>by
  have h1:=h q sm;rw[List.map_cons,aO,aO,Fe hp (fun r hr=>h r (by simp[hr])),List.getElem?_append_right om,hp]
theorem XV {k:Nat}:∀ {F:List Nat} {D pre X:List α},pre.length=k->(∀ q∈F,k<=q)->R8 (pre++X) F D=pre++R8 X (F.map (· - k)) D
 | [],D,_,_,_,_=>by cases D <;> rfl
 | q::F,[],_,_,_,_=>rfl
 | q::F,p::D,pre,X,hp,h=>by
  have h1:=h q sm;rw[List.map_cons,R8,R8,List.set_append_right _ _ om,XV hp (fun r hr=>h r (by simp[hr])),hp]
theorem ZF {k:Nat}:∀ {lo:Nat} {F:List Nat},bZ lo F=true->k<=lo->bZ (lo-k) (F.map (· - k))=true
 | _,[],_,_=>rfl
 | lo,q::F,h,hk=>by
  simp only[bZ,Bool.and_eq_true] at h;have h1:=nlb h.1;have:=ZF (k:=k) h.2 om;rw[List.map_cons,bZ,bet];refine⟨Nat.ble_eq_true_of_le om,?_⟩
  rwa [show q-k+1=q+1-k by omega]
theorem KC:∀ {F:List Nat} {X C D:List α},bZ 0 F=true->aO X F=some C->D.length=C.length->∃ rest,X.Perm (C++rest)/\(R8 X F D).Perm (D++rest)
 | [],X,C,D,_,hg,hd=>by
  simp[aO] at hg;subst hg;have:D=[]:=List.eq_nil_of_length_eq_zero (by simpa using hd);subst this;exact⟨X,List.Perm.refl _,List.Perm.refl _⟩
 | q::F,X,C,D,hr,hg,hd=>by
  unfold aO at hg;split at hg
  ·rename_i c C' h1 h2;injection hg with hg
   subst hg
   match D,hd with
   | d::D,hd=>
    obtain⟨hlt,he⟩:=List.getElem?_eq_some_iff.1 h1;have hX:X=X.take q++[c]++X.drop (q+1):=by
     conv=>lhs;rw[<- List.take_append_drop q X,List.drop_eq_getElem_cons hlt,he]
     simp
    simp only[bZ,Bool.and_eq_true] at hr;have hge:=ZG hr.2;have hpl:(X.take q++[c]).length=q+1:=by simp;omega
    have hpl':(X.take q++[d]).length=q+1:=by simp;omega
    have hset:X.set q d=X.take q++[d]++X.drop (q+1):=by
     rw[List.set_eq_take_append_cons_drop,if_pos hlt];simp
    have h2':aO (X.drop (q+1)) (F.map (· - (q+1)))=some C':=by
     rw[<- Fe hpl hge,<- hX,h2]
    obtain⟨rest,g1,g2⟩:=KC (F:=F.map (· - (q+1))) (D:=D) (by
     have:=ZF (k:=q+1) hr.2 (Nat.le_refl _)
     rwa [Nat.sub_self] at this) h2' (by simpa using hd)
    refine⟨X.take q++rest,?_,?_⟩
    ·conv=>lhs;rw[hX]
     rw[laa,List.singleton_append];refine List.perm_middle.trans ?_;rw[List.cons_append];refine List.Perm.cons _ ?_;refine(List.Perm.append_left _ g1).trans ?_;rw[<- laa,<- laa];exact List.Perm.append_right _ List.perm_append_comm
    ·rw[R8,hset,XV hpl' hge,laa,List.singleton_append];refine List.perm_middle.trans ?_;rw[List.cons_append];refine List.Perm.cons _ ?_;refine(List.Perm.append_left _ g2).trans ?_;rw[<- laa,<- laa];exact List.Perm.append_right _ List.perm_append_comm
  ·cases hg
termination_by F=>F.length
end lists
structure Rec where
 F:List Nat
 C:List Piece
 D:List Piece
 N:List Piece
 wr:Bool
 fresh:Bool
 x:AV
def qN (r:Rec)(T:List Piece):List Piece:=bif r.wr then R8 T r.F r.D++r.N else T
def u7 (L:Nat->Bool):Nat->List Rec->List Piece->List Piece
 | _,[],T=>T
 | i,r::rs,T=>u7 L (i+1) rs (bif L i then qN r T else T)
theorem lZ {L:Nat->Bool}{r:Rec}:∀ {rs:List Rec} {i:Nat} {T:List Piece},u7 L i (rs++[r]) T=bif L (i+rs.length) then qN r (u7 L i rs T) else u7 L i rs T
 | [],i,T=>by simp[u7]
 | q::rs,i,T=>by
  rw[List.cons_append,u7,u7,lZ];simp only[List.length_cons,show i+1+rs.length=i+(rs.length+1) by omega]
theorem LZ {L L':Nat->Bool}:∀ {rs:List Rec} {i:Nat} {T:List Piece},(∀ j,i<=j->j<i+rs.length->L j=L' j)->u7 L i rs T=u7 L' i rs T
 | [],_,_,_=>rfl
 | r::rs,i,T,h=>by
  rw[u7,u7,h i (Nat.le_refl _) sm,LZ (fun j h1 h2=>h j om (by simp;omega))]
abbrev jO (rs:List Rec)(T:List Piece):List Piece:=u7 (fun _=>true) 0 rs T
def meets (F F':List Nat)(w w':Bool):Bool:=(w || w')&&F.any (LB F')
theorem KQ {F F':List Nat}{w w':Bool}{q:Nat}(h1:q∈F)(h2:q∈F')(hw:w=true\/w'=true):meets F F' w w'=true:=by
 unfold meets;rw[bet];refine⟨by rcases hw with rfl|rfl <;> simp,List.any_eq_true.2 ⟨q,h1,?_⟩⟩;rw[a0z];simpa using h2
def conf (l:List Oper)(j:Nat)(F:List Nat)(w:Bool):Nat->List Rec->Bool
 | _,[]=>true
 | i,r::rs=>(!(meets F r.F w r.wr) || fM l 2 j i)&&conf l j F w (i+1) rs
theorem UE {l:List Oper}{j:Nat}{F:List Nat}{w:Bool}:∀ {rs:List Rec} {i:Nat},conf l j F w i rs=true->∀ (k:Nat) (r:Rec),rs[k]?=some r->meets F r.F w r.wr=true->fM l 2 j (i+k)=true
 | [],_,_,k,r,hk,_=>by simp at hk
 | q::rs,i,h,k,r,hk,hm=>by
  simp only[conf,Bool.and_eq_true] at h;cases k with
  | zero=>
   simp at hk;subst hk;simpa[hm] using h.1
  | succ k=>
   have:=UE h.2 k r (by simpa using hk) hm
   rwa [show i+1+k=i+(k+1) by omega] at this
def Dp (l:List Oper)(j:Nat):Bool:=(List.range l.length).all fun i=>Nat.ble i j || fM l 2 i j
def pick (E:Env):List Nat->Env
 | []=>[]
 | t::ts=>(match lk E t with|some v=>(t,v)::pick E ts|none=>pick E ts)
def J5 (o:Oper)(x:AV)(E:Env):Env:=match o.dst with|some d=>(d,x)::E|none=>E
section
variable {P:Program} {N:Nat} {Q:Exit->Act->World->Prop} {e:Env} {s:Base} {m:List Piece} {gl:List (Nat × AV)}
def Got (s:Base)(o:Oper)(D:List Piece)(x:AV)(a:Act)(w:World):Prop:=a.defers=[]/\∃ ok,St s ok D w/\∀ d,o.dst=some d->RV ok w x (a.tmps.getD d undef)
def OpOK (P:Program)(N:Nat)(gl:List (Nat × AV))(l:List Oper)(o:Oper)(E:Env)(C D:List Piece)(x:AV):Prop:=
 ∀ s:Base,s.gl=gl->AL P N l.toArray (Exit.then (Got s o D x) fun _ _ _=>False) s [o] E C
def nQ (l:List Oper)(i:Nat):Bool:=((l[i]?).map fun o=>(match o.op with|.alloc _=>true|_=>false)&&(o.guard.isNone&&o.dst.isSome)&&o.after.toList.all fun e=>!Region.binds .any e).getD false
def qJ (l:List Oper)(i:Nat)(F:List Nat)(w:Bool)(rs:List Rec):Bool:=(!nQ l i || rs.all fun r=>!r.fresh)&&conf l i F w 0 rs
def RZ (l:List Oper)(j:Nat):Bool:=(List.range l.length).all fun i=>Nat.ble i j || fM l 5 i j || nQ l i
def ZZ (P:Program)(l:List Oper):Prop:=∀ (k:Nat) (o:Oper) (T:TypeId),l[k]?=some o->nQ l k=true->o.op=.alloc T->∃ z,TyO P T z
def Lst (P:Program)(l:List Oper)(i:Nat):Prop:=Dp l i=true\/(RZ l i=true/\ZZ P l)
def Obl (P:Program)(N:Nat)(Q:Exit->Act->World->Prop)(s:Base)(gl:List (Nat × AV))(l:List Oper):List Oper->Nat->List Piece->Env->List Rec->Prop
 | [],_,T,E,_=>AE N .normal Q s E T
 | o::os,i,T,E,rs=>
  (∃ F C D x wr,aO T F=some C/\D.length=C.length/\(wr=false->D=C)/\bZ 0 F=true/\qJ l i F wr rs=true/\OpOK P N gl l o (pick E (lW l o)) C D x /\
   Obl P N Q s gl l os (i+1) (bif wr then R8 T F D++[] else T) (J5 o x E) (rs++[⟨F,C,D,[],wr,false,x⟩])) \/
  (∃ F C,aO T F=some C/\bZ 0 F=true/\qJ l i F true rs=true/\Lst P l i /\
   ∀ s':Base,s'.gl=gl->AL P N l.toArray (Exit.then (fun a w=>∃ D N' x,D.length=C.length/\Got s' o (D++N') x a w/\Obl P N Q s gl l os (i+1) (R8 T F D++N') (J5 o x E) (rs++[⟨F,C,D,N',true,true,x⟩])) fun _ _ _=>False) s' [o] (pick E (lW l o)) C) \/
  (∃ d Ty z,nQ l i=true/\o.op=.alloc Ty/\o.dst=some d/\Lst P l i/\TyO P Ty z /\
   ∀ g,Obl P N Q s gl l os (i+1) (T++[.var g Ty z]) (J5 o (ptr g) E) (rs++[⟨[],[],[],[.var g Ty z],true,true,ptr g⟩]))
def BK (N:Nat)(l:List Oper):Bool:=
 ((List.range l.length).all fun i=>((l[i]?).map fun o=>(o.after.toList.all fun e=>!Region.binds .any e || Nat.blt e.on i)&&(match o.op with|.defer _|.select ..=>false|_=>true) &&
  (match o.dst with|some d=>Nat.blt d N&&((List.range l.length).all fun k=>Nat.beq k i || (match yG l k with|some d'=>!(Nat.beq d' d)|none=>true))|none=>true) &&
  ((lW l o).all fun t=>(List.range l.length).all fun k=>(match yG l k with|some d'=>!(Nat.beq d' t)|none=>true) || Nat.beq k i || (bif Nat.blt k i then fM l 2 i k else fM l 2 k i))).getD false)
structure ChkR (N:Nat)(l:List Oper):Prop where
 back:∀ i o,l[i]?=some o->∀ x∈o.after,Region.binds .any x=true->x.on<i
 lt:∀ (i:Nat) (o:Oper) (d:Nat),l[i]?=some o->o.dst=some d->d<N
 nodup:∀ (i k:Nat) (o o':Oper) (d:Nat),l[i]?=some o->l[k]?=some o'->o.dst=some d->o'.dst=some d->i=k
 looks:∀ (i k:Nat) (o o':Oper) (d:Nat),l[i]?=some o->l[k]?=some o'->o'.dst=some d->d∈lW l o->k≠i->(k<i->fM l 2 i k=true)/\(i<k->fM l 2 k i=true)
theorem ChkR.of {l:List Oper}(h:BK N l=true):ChkR N l:=by
 have get:∀ i o,l[i]?=some o->(o.after.toList.all fun e=>!Region.binds .any e || Nat.blt e.on i)=true /\
   (match o.dst with|some d=>Nat.blt d N&&((List.range l.length).all fun k=>Nat.beq k i || (match yG l k with|some d'=>!(Nat.beq d' d)|none=>true))|none=>true)=true /\
   ((lW l o).all fun t=>(List.range l.length).all fun k=>(match yG l k with|some d'=>!(Nat.beq d' t)|none=>true) || Nat.beq k i || (bif Nat.blt k i then fM l 2 i k else fM l 2 k i))=true:=fun i o ho=>by
  have hi:i<l.length:=(List.getElem?_eq_some_iff.1 ho).1;have h:=List.all_eq_true.1 h i (by simpa using hi);simp only[ho,Option.map_some,Option.getD_some,Bool.and_eq_true] at h;exact⟨h.1.1.1,h.1.2,h.2⟩
 refine⟨fun i o ho x hx hb=>?_,fun i o d ho hd=>?_,fun i k o o' d ho ho' hd hd'=>?_,fun i k o o' d ho ho' hd' hlk hne=>?_⟩
 ·have h:=List.all_eq_true.1 (get i o ho).1 x (by simpa using hx);simp[hb] at h;exact h
 ·have h:=(get i o ho).2.1;rw[hd] at h;simp only[Bool.and_eq_true] at h;exact nlb h.1
 ·have h:=(get i o ho).2.1;rw[hd] at h;simp only[Bool.and_eq_true] at h;have hk:k<l.length:=(List.getElem?_eq_some_iff.1 ho').1;have h:=List.all_eq_true.1 h.2 k (by simpa using hk);simp[yG,ho',hd'] at h;exact h.symm
 ·have hk:k<l.length:=(List.getElem?_eq_some_iff.1 ho').1;have h:=List.all_eq_true.1 (List.all_eq_true.1 (get i o ho).2.2 d hlk) k (by simpa using hk);simp only[yG,ho',Option.bind_some,hd',Nat.beq_refl,Bool.not_true,lD hne,Bool.false_or] at h;refine⟨fun hlt=>?_,fun hlt=>?_⟩
  ·rwa [show Nat.blt k i=true from Nat.ble_eq_true_of_le hlt,cond_true] at h
  ·rwa [show Nat.blt k i=false by
    cases hb:Nat.blt k i
    ·rfl
    ·have:=nlb hb;omega,cond_false] at h
end

section lists
variable {α:Type}
theorem XW:∀ {F:List Nat} {D A B:List α},(∀ q∈F,q<A.length)->R8 (A++B) F D=R8 A F D++B
 | [],D,A,B,_=>by cases D <;> rfl
 | q::F,[],A,B,_=>rfl
 | q::F,p::D,A,B,h=>by
  rw[R8,R8,List.set_append_left _ _ (h q sm),XW (fun r hr=>by simpa using h r (by simp[hr]))]
theorem Ry {F F':List Nat}{D D' X:List α}{lo lo':Nat}(hr:bZ lo F=true)(hr':bZ lo' F'=true)(hl:F.length=D.length)(hl':F'.length=D'.length)(hF:∀ q∈F,q<X.length)(hF':∀ q∈F',q<X.length)(hd:∀ q∈F,q ∉ F') :
  R8 (R8 X F D) F' D'=R8 (R8 X F' D') F D:=by
 apply List.ext_getElem?;intro q;by_cases h1:q∈F
 ·rw[pE (hd q h1)];exact IZ hr hl h1 (hF q h1) (by rw[iN];exact hF q h1)
 ·rw[pE (F:=F) (T:=R8 X F' D') h1];by_cases h2:q∈F'
  ·exact IZ hr' hl' h2 (by rw[iN];exact hF' q h2) (hF' q h2)
  ·rw[pE h2,pE h1,pE h2]
end lists
theorem sS {α:Type}{l:List α}{k:Nat}{r:α}(h:l[k]?=some r):l.take (k+1)=l.take k++[r]:=by
 obtain⟨hlt,rfl⟩:=List.getElem?_eq_some_iff.1 h;rw[List.take_succ_eq_append_getElem hlt]
structure RecOK (m:List Piece)(rs:List Rec)(j:Nat)(r:Rec):Prop where
 get:aO (jO (rs.take j) m) r.F=some r.C
 len:r.D.length=r.C.length
 rise:bZ 0 r.F=true
 read:r.wr=false->r.D=r.C
 nofr:r.fresh=false->r.N=[]
 fr:r.fresh=true->r.wr=true
theorem RecOK.fd {m:List Piece}{rs:List Rec}{j:Nat}{r:Rec}(h:RecOK m rs j r):r.F.length=r.D.length:=by rw[h.len];exact(xX h.get).1
theorem zB {m:List Piece}{rs:List Rec}{r:Rec}:jO (rs++[r]) m=qN r (jO rs m):=by
 unfold jO;rw[lZ];rfl
section
variable {m:List Piece} {rs:List Rec} {L L':Nat->Bool}
theorem Jb (hrs:∀ (j:Nat) (r:Rec),rs[j]?=some r->RecOK m rs j r){q j:Nat}(h1:∀ (k:Nat) (r:Rec),rs[k]?=some r->k<j->(r.fresh=true->L k=true)/\(r.wr=true->q∈r.F->L k=true)) :
  ∀ k,k<=j->k<=rs.length->(u7 L 0 (rs.take k) m).length=(jO (rs.take k) m).length/\(u7 L 0 (rs.take k) m)[q]?=(jO (rs.take k) m)[q]?
 | 0,_,_=>by simp[u7]
 | k+1,hj,hk=>by
  obtain⟨g1,g2⟩:=Jb hrs h1 k om om;have hr:rs[k]?=some rs[k]:=by simp
  have hok:=hrs k _ hr;obtain⟨e1,e2⟩:=h1 k _ hr om;rw[sS hr,lZ,zB];have hlen:(rs.take k).length=k:=by simp;omega
  simp only[hlen,Nat.zero_add];generalize rs[k]=r at hok e1 e2;have hF:=(xX hok.get).2;generalize hX:u7 L 0 (rs.take k) m=X at g1 g2 ⊢;generalize hY:jO (rs.take k) m=Y at g1 g2 hF ⊢;unfold qN;cases hL:L k with
  | true=>
   simp only[cond_true];cases hw:r.wr with
   | false=>exact⟨g1,g2⟩
   | true=>
    simp only[cond_true];refine⟨by simp[iN,g1],?_⟩;rcases Nat.lt_or_ge q Y.length with hq|hq
    ·rw[List.getElem?_append_left (by rw[iN,g1];exact hq),List.getElem?_append_left (by rw[iN];exact hq)];by_cases hqF:q∈r.F
     ·exact IZ hok.rise hok.fd hqF om hq
     ·rw[pE hqF,pE hqF,g2]
    ·rw[List.getElem?_append_right (by rw[iN,g1];exact hq),List.getElem?_append_right (by rw[iN];exact hq),iN,iN,g1]
  | false=>
   simp only[cond_false];have hfr:r.fresh=false:=by
    cases h:r.fresh with
    | false=>rfl
    | true=>rw[e1 h] at hL;cases hL
   cases hw:r.wr with
   | false=>exact⟨g1,g2⟩
   | true=>
    simp only[cond_true,hok.nofr hfr,List.append_nil];refine⟨by rw[iN,g1],?_⟩;rw[pE (fun hqF=>by rw[e2 hw hqF] at hL;cases hL),g2]
theorem Jc {q j:Nat}(h2:∀ (k:Nat) (r:Rec),rs[k]?=some r->j<=k->L k=true->r.wr=true->q ∉ r.F)(hq:q<(u7 L 0 (rs.take j) m).length) :
  ∀ d,j+d<=rs.length->q<(u7 L 0 (rs.take (j+d)) m).length/\(u7 L 0 (rs.take (j+d)) m)[q]?=(u7 L 0 (rs.take j) m)[q]?
 | 0,_=>⟨hq,rfl⟩
 | d+1,hd=>by
  obtain⟨g1,g2⟩:=Jc h2 hq d om;have hr:rs[j+d]?=some rs[j+d]:=by simp
  have e:=h2 (j+d) _ hr om;rw[show j+(d+1)=j+d+1 by omega,sS hr,lZ];have hlen:(rs.take (j+d)).length=j+d:=by simp;omega
  simp only[hlen,Nat.zero_add];generalize rs[j+d]=r at e;unfold qN;cases hL:L (j+d) with
  | false=>exact⟨g1,g2⟩
  | true=>
   cases hw:r.wr with
   | false=>exact⟨g1,g2⟩
   | true=>
    simp only[cond_true];refine⟨by simp only[List.length_append,iN];omega,?_⟩;rw[List.getElem?_append_left (by rw[iN];exact g1),pE (e hL hw),g2]
theorem Je (hrs:∀ (j:Nat) (r:Rec),rs[j]?=some r->RecOK m rs j r){q j:Nat}(hj:j<=rs.length)(h1:∀ (k:Nat) (r:Rec),rs[k]?=some r->k<j->(r.fresh=true->L k=true)/\(r.wr=true->q∈r.F->L k=true))
  (h2:∀ (k:Nat) (r:Rec),rs[k]?=some r->j<=k->L k=true->r.wr=true->q ∉ r.F) (hq:q<(jO (rs.take j) m).length):(u7 L 0 rs m)[q]?=(jO (rs.take j) m)[q]?:=by
 obtain⟨g1,g2⟩:=Jb hrs h1 j (Nat.le_refl _) hj;obtain⟨_,g4⟩:=Jc h2 (by rw[g1];exact hq) (rs.length-j) om;rw[show j+(rs.length-j)=rs.length by omega,List.take_length] at g4;rw[g4,g2]
theorem TZ (hrs:∀ (j:Nat) (r:Rec),rs[j]?=some r->RecOK m rs j r)(h1:∀ (k:Nat) (r:Rec),rs[k]?=some r->r.fresh=true->L k=true):∀ k,k<=rs.length->(u7 L 0 (rs.take k) m).length=(jO (rs.take k) m).length
 | 0,_=>by simp[u7]
 | k+1,hk=>by
  have g1:=TZ hrs h1 k om;have hr:rs[k]?=some rs[k]:=by simp
  have hok:=hrs k _ hr;have e1:=h1 k _ hr;rw[sS hr,lZ,zB];have hlen:(rs.take k).length=k:=by simp;omega
  simp only[hlen,Nat.zero_add];generalize rs[k]=r at hok e1;unfold qN;cases hL:L k with
  | true=>
   simp only[cond_true];cases hw:r.wr with
   | false=>exact g1
   | true=>simp[iN,g1]
  | false=>
   simp only[cond_false];have hfr:r.fresh=false:=by
    cases h:r.fresh with
    | false=>rfl
    | true=>rw[e1 h] at hL;cases hL
   cases hw:r.wr with
   | false=>exact g1
   | true=>simp[iN,g1,hok.nofr hfr]
theorem Jd (hrs:∀ (j:Nat) (r:Rec),rs[j]?=some r->RecOK m rs j r)(hfr:∀ (k:Nat) (r:Rec),rs[k]?=some r->r.fresh=true->L k=true){j:Nat}{r:Rec}(hj:rs[j]?=some r)(hn:r.fresh=false)(h0:L j=false)(hL:∀ k,k≠j->L' k=L k)(hj':L' j=true)
  (h2:∀ (k:Nat) (r':Rec),rs[k]?=some r'->j<k->L k=true->r'.wr=true->∀ q∈r.F,q ∉ r'.F):∀ d,j+1+d<=rs.length->u7 L' 0 (rs.take (j+1+d)) m=bif r.wr then R8 (u7 L 0 (rs.take (j+1+d)) m) r.F r.D else u7 L 0 (rs.take (j+1+d)) m
 | 0,hd=>by
  have hlen:(rs.take j).length=j:=by simp;omega
  rw[Nat.add_zero,sS hj,lZ,lZ,hlen,Nat.zero_add,h0,hj'];simp only[cond_true,cond_false];rw[LZ (L:=L') (L':=L) (fun k _ hk=>hL k (by rw[hlen] at hk;omega))];unfold qN;rw[(hrs j r hj).nofr hn,List.append_nil]
 | d+1,hd=>by
  have ih:=Jd hrs hfr hj hn h0 hL hj' h2 d om;have hr:rs[j+1+d]?=some rs[j+1+d]:=by simp
  have e:=h2 (j+1+d) _ hr om;have hok:=hrs _ _ hr;have hokj:=hrs _ _ hj;have hlen:(rs.take (j+1+d)).length=j+1+d:=by simp;omega
  have hcl:=TZ hrs hfr (j+1+d) om;rw[show j+1+(d+1)=j+1+d+1 by omega,sS hr,lZ,lZ,hlen,Nat.zero_add,hL _ om,ih];have hF':=(xX hok.get).2;rw[<- hcl] at hF';generalize rs[j+1+d]=r' at e hok hF';have hFj:∀ q∈r.F,q<(u7 L 0 (rs.take (j+1+d)) m).length:=fun q hq=>by
   have h1:=(xX hokj.get).2 q hq;rw[<- TZ hrs hfr j om] at h1;have:∀ d,j+d<=rs.length->(u7 L 0 (rs.take j) m).length<=(u7 L 0 (rs.take (j+d)) m).length:=by
    intro d
    induction d with
    | zero=>intro _;exact Nat.le_refl _
    | succ d ih=>
     intro hd;have hr:rs[j+d]?=some rs[j+d]:=by simp
     have hlen:(rs.take (j+d)).length=j+d:=by simp;omega
     rw[show j+(d+1)=j+d+1 by omega,sS hr,lZ,hlen,Nat.zero_add];refine Nat.le_trans (ih om) ?_;unfold qN;cases L (j+d)
     ·exact Nat.le_refl _
     ·cases rs[j+d].wr
      ·exact Nat.le_refl _
      ·simp[iN]
   have:=this (1+d) om;rw[show j+(1+d)=j+1+d by omega] at this;omega
  generalize u7 L 0 (rs.take (j+1+d)) m=X at hF' hFj ⊢;unfold qN;cases hLk:L (j+1+d) with
  | false=>rfl
  | true=>
   simp only[cond_true];cases hw':r'.wr with
   | false=>rfl
   | true=>
    cases hw:r.wr with
    | false=>rfl
    | true=>
     simp only[cond_true];have hd':=e hLk hw';rw[XW (A:=R8 X r'.F r'.D) (fun q hq=>by rw[iN];exact hFj q hq)];rw[Ry hokj.rise hok.rise hokj.fd hok.fd hFj hF' hd']
end
def jQ:List Oper->List Rec->Env->Env
 | o::os,r::rs,e=>jQ os rs (J5 o r.x e)
 | _,_,e=>e
theorem DI {o:Oper}{r:Rec}:∀ {os:List Oper} {rs:List Rec} {e:Env},os.length=rs.length->jQ (os++[o]) (rs++[r]) e=J5 o r.x (jQ os rs e)
 | [],[],e,_=>rfl
 | [],_::_,_,h=>by simp at h
 | _::_,[],_,h=>by simp at h
 | o'::os,r'::rs,e,h=>by
  rw[List.cons_append,List.cons_append,jQ,jQ,DI (by simpa using h)]
theorem Uz {o:Oper}{x:AV}{e:Env}{t:Nat}{v:AV}(h:lk (J5 o x e) t=some v):(o.dst=some t/\v=x)\/(lk e t=some v/\o.dst≠some t):=by
 unfold J5 at h;cases hd:o.dst with
 | none=>rw[hd] at h;exact .inr ⟨h,sm⟩
 | some d=>
  rw[hd] at h;unfold lk at h;by_cases hdt:d=t
  ·subst hdt;simp at h;exact .inl ⟨rfl,h.symm⟩
  ·simp[lD hdt] at h;exact .inr ⟨h,by simpa using hdt⟩
theorem NT:∀ {os:List Oper} {rs:List Rec} {e:Env} {t:Nat} {v:AV},os.length=rs.length->lk (jQ os rs e) t=some v ->
  (∃ (j:Nat) (o:Oper) (r:Rec),os[j]?=some o/\rs[j]?=some r/\o.dst=some t/\v=r.x)\/(lk e t=some v/\∀ (j:Nat) (o:Oper),os[j]?=some o->o.dst≠some t)
 | [],_,e,t,v,_,h=>.inr ⟨by cases ‹List Rec› <;> exact h,sm⟩
 | o::os,[],e,t,v,hl,h=>by simp at hl
 | o::os,r::rs,e,t,v,hl,h=>by
  rw[jQ] at h;rcases NT (by simpa using hl) h with⟨j,o',r',h1,h2,h3,h4⟩|⟨h1,h2⟩
  ·exact .inl ⟨j+1,o',r',by simpa using h1,by simpa using h2,h3,h4⟩
  ·rcases Uz h1 with⟨h3,h4⟩|⟨h3,h4⟩
   ·exact .inl ⟨0,o,r,rfl,rfl,h3,h4⟩
   ·refine .inr ⟨h3,fun j o' hj=>?_⟩;cases j with
    | zero=>
     simp at hj;subst hj;exact h4
    | succ j=>exact h2 j o' (by simpa using hj)
theorem QF {E:Env}:∀ {ts:List Nat} {t:Nat} {v:AV},lk (pick E ts) t=some v->t∈ts/\lk E t=some v
 | [],t,v,h=>by simp[pick,lk] at h
 | u::ts,t,v,h=>by
  unfold pick at h;split at h
  ·rename_i x hx;unfold lk at h;by_cases hut:u=t
   ·subst hut;simp at h;exact⟨sm,by rw[hx,h]⟩
   ·simp[lD hut] at h;obtain⟨h1,h2⟩:=QF h;exact⟨by simp[h1],h2⟩
  ·obtain⟨h1,h2⟩:=QF h;exact⟨by simp[h1],h2⟩
section
variable {P:Program} {N:Nat} {Q:Exit->Act->World->Prop} {e:Env} {s:Base} {m:List Piece} {gl:List (Nat × AV)} {l:List Oper}
structure Know (P:Program)(N:Nat)(gl:List (Nat × AV))(l:List Oper)(e:Env)(m:List Piece)(rs:List Rec):Prop where
 le:rs.length<=l.length
 ok:∀ (j:Nat) (r:Rec),rs[j]?=some r->RecOK m rs j r
 conf:∀ (i j:Nat) (r r':Rec),i<j->rs[i]?=some r'->rs[j]?=some r->meets r.F r'.F r.wr r'.wr=true->fM l 2 j i=true
 op:∀ (j:Nat) (r:Rec) (o:Oper),rs[j]?=some r->l[j]?=some o->r.fresh=false->OpOK P N gl l o (pick (jQ (l.take j) (rs.take j) e) (lW l o)) r.C r.D r.x
theorem Know.add {rs:List Rec}{r:Rec}{o:Oper}(h:Know P N gl l e m rs)(ho:l[rs.length]?=some o)(hok:RecOK m rs rs.length r)(hc:Av.conf l rs.length r.F r.wr 0 rs=true)
  (hop:r.fresh=false->OpOK P N gl l o (pick (jQ (l.take rs.length) rs e) (lW l o)) r.C r.D r.x):Know P N gl l e m (rs++[r]):=by
 have hlt:rs.length<l.length:=(List.getElem?_eq_some_iff.1 ho).1;have get:∀ {j:Nat} {r':Rec},(rs++[r])[j]?=some r'->(j<rs.length/\rs[j]?=some r')\/(j=rs.length/\r'=r):=fun {j r'} hj=>by
  rcases Nat.lt_or_ge j rs.length with hlt|hge
  ·rw[List.getElem?_append_left hlt] at hj;exact .inl ⟨hlt,hj⟩
  ·rw[List.getElem?_append_right hge] at hj;have:j-rs.length=0:=by
    rcases Nat.eq_zero_or_pos (j-rs.length) with h|h
    ·exact h
    ·rw[List.getElem?_eq_none (by simp;omega)] at hj;cases hj
   rw[this] at hj;simp at hj;exact .inr ⟨om,hj.symm⟩
 have take:∀ {j:Nat},j<=rs.length->(rs++[r]).take j=rs.take j:=fun hj=>List.take_append_of_le_length hj;refine⟨by simp;omega,fun j r' hj=>?_,fun i j r1 r2 hij hi hj hm=>?_,fun j r' o' hj ho' hf=>?_⟩
 ·rcases get hj with⟨hlt,hj⟩|⟨rfl,rfl⟩
  ·have:=h.ok j r' hj;exact⟨by rw[take om];exact this.get,this.len,this.rise,this.read,this.nofr,this.fr⟩
  ·exact⟨by rw[take (Nat.le_refl _),List.take_length];have:=hok.get;rwa [List.take_length] at this,hok.len,hok.rise,hok.read,hok.nofr,hok.fr⟩
 ·rcases get hj with⟨hlt,hj⟩|⟨rfl,rfl⟩
  ·rcases get hi with⟨_,hi⟩|⟨rfl,_⟩
   ·exact h.conf i j r1 r2 hij hi hj hm
   ·omega
  ·rcases get hi with⟨_,hi⟩|⟨rfl,_⟩
   ·have:=UE hc i r2 hi hm
    rwa [Nat.zero_add] at this
   ·omega
 ·rcases get hj with⟨hlt,hj⟩|⟨rfl,rfl⟩
  ·rw[take om];exact h.op j r' o' hj ho' hf
  ·rw[ho] at ho';injection ho' with ho'
   subst ho';rw[take (Nat.le_refl _),List.take_length];exact hop hf
def Next (P:Program)(N:Nat)(Q:Exit->Act->World->Prop)(s:Base)(gl:List (Nat × AV))(l:List Oper)(e:Env)(m:List Piece)(rs:List Rec):Prop:=
 (rs.length=l.length/\AE N .normal Q s (jQ l rs e) (jO rs m)) \/
 (∃ o F C,l[rs.length]?=some o/\aO (jO rs m) F=some C/\bZ 0 F=true/\qJ l rs.length F true rs=true/\Lst P l rs.length /\
   ∀ s':Base,s'.gl=gl->AL P N l.toArray (Exit.then (fun a w=>∃ D N' x,D.length=C.length/\Got s' o (D++N') x a w/\Obl P N Q s gl l (l.drop (rs.length+1)) (rs.length+1) (R8 (jO rs m) F D++N') (J5 o x (jQ (l.take rs.length) rs e)) (rs++[⟨F,C,D,N',true,true,x⟩])) fun _ _ _=>False) s' [o] (pick (jQ (l.take rs.length) rs e) (lW l o)) C) \/
 ∃ o d Ty z,l[rs.length]?=some o/\nQ l rs.length=true/\o.op=.alloc Ty/\o.dst=some d/\Lst P l rs.length/\TyO P Ty z /\
   ∀ g,Obl P N Q s gl l (l.drop (rs.length+1)) (rs.length+1) (jO rs m++[.var g Ty z]) (J5 o (ptr g) (jQ (l.take rs.length) rs e)) (rs++[⟨[],[],[],[.var g Ty z],true,true,ptr g⟩])
end
end Av
