/- . -/
import Derived.Lib.AppendZerosOnto
import Derived.Laws.Externs
import Derived.Lib.Overlaps
import Derived.Test.YtcdbijbhifhkeaaGreatDoorV07
namespace Av
open Go Go.RowKit Tw
section
variable {w:World}{m' post pre:List Piece}{xs:List AV}{k:Nat}{E T:TypeId}{s:Base}{v v':AV}{xo:Operand}
@[simp] theorem b8H {α:Type}(xs:List α)(j:Nat)(zs:List α):(over xs j zs).length=min j xs.length+zs.length+(xs.length-(j+zs.length)):=by simp[over,Nat.add_assoc]
theorem PU (z:Array Value):∀ n,(Builtin.zeroCells z n).toList=(List.replicate n z.toList).flatten
 | 0=>by simp[Builtin.zeroCells]
 | n+1=>by
  have ih:=PU z n;have h1:∀ m,(Builtin.zeroCells z m).toList=(List.range (m*z.size)).map λi=>z[i%z.size]!:=λm=>by
   simp[Builtin.zeroCells,Array.toList_range]
  rw[h1] at ih;rw[h1,Nat.add_mul,Nat.one_mul,List.range_add,List.map_append,ih,List.replicate_succ',List.flatten_append];congr 1
  simp only[List.map_map,List.flatten_cons,List.flatten_nil,List.append_nil];apply List.ext_getElem
  ·simp
  intro i h1 h2;have hi:i<z.size:=by simpa using h1
  simp[Nat.mod_eq_of_lt hi,hi]
theorem RCs.replicate {ok:Ok}{z:AV}{c:List Value}(h:RC ok w z c):∀ n,RCs ok w (List.replicate n z) (List.replicate n c).flatten
 | 0=>by rw[List.replicate_zero,RCs];rfl
 | n+1=>by
  rw[List.replicate_succ,List.replicate_succ,List.flatten_cons,RCs];exact⟨c,_,rfl,h,RCs.replicate h n⟩
theorem St.trim {ok:Ok}{g:Nat}{c:Nat}(n:Nat)(h:St s ok (pre++.buf g E k xs c::post) w):St s ok (pre++.buf g E k (xs.take n) c::post) w:=by
 obtain⟨cs1,cs2,h1,h2,h3,h4,h5⟩:=h.at_ (.buf g E k xs c) sm;have hpm:Piece.buf g E k xs c∈pre++.buf g E k xs c::post:=by simp
 refine h.write (g:=g) rfl (.inl rfl) (Stp.refl _ _) ?_ (λb j hb=>h.own _ hpm b j hb) rfl rfl rfl rfl (λ_ _=>rfl) (λ_ _ _=>Iff.rfl);have he:xs=xs.take n++xs.drop n:=(List.take_append_drop _ _).symm;have h2':=h2;rw[he] at h2';obtain⟨a,b,rfl,g1,_⟩:=h2'.split;exact⟨a,b++cs2,by rw[h1];simp,g1,λx hx=>h3 x (List.mem_of_mem_take hx),by rw[<- h4];simp;omega,h5⟩
def ImpC (a b:AV):Prop:=∀ ok w cs,RC ok w a cs->RC ok w b cs
theorem ImpC.nil :ImpC (.lit (.slice none 0 0)) (.sl k [] none):=λok w cs h=>by
 rw[RC] at h;rw[RC];exact⟨none,0,h.1,sm,Nat.le_refl _,by simp[maxLen],sm,sm⟩
theorem ImpC.agg1 {n:Nat}{a b:AV}(h:ImpC a b):ImpC (.agg n [a]) (.agg n [b]):=λok w cs hh=>by
 rw[RC] at hh;obtain⟨h1,hh⟩:=hh;rw[RCs] at hh;obtain⟨c1,c2,rfl,h2,h3⟩:=hh;rw[RC];refine⟨h1,?_⟩;rw[RCs];exact⟨c1,c2,rfl,h ok w c1 h2,h3⟩
theorem Imp.ofC {n:Nat}{as bs:List AV}(h:ImpC (.agg n as) (.agg n bs)):Imp (.agg n as) (.agg n bs):=λok w v hh=>⟨h ok w _ (show RV0 ok w (.agg n as) v from hh).1,(show RV0 ok w (.agg n as) v from hh).2⟩
theorem St.asVar {ok:Ok}{g:Nat}(hi:ImpC v v')(h:St s ok (pre++.var g T v::post) w):St s ok (pre++.var g T v'::post) w:=by
 obtain⟨cs,h1,h2⟩:=h.at_ (.var g T v) sm;have hpm:Piece.var g T v∈pre++.var g T v::post:=by simp
 exact h.write (g:=g) rfl (.inl rfl) (Stp.refl _ _) ⟨cs,h1,hi _ _ _ h2⟩ (λb j hb=>h.own _ hpm b j hb) rfl rfl rfl rfl (λ_ _=>rfl) (λ_ _ _=>Iff.rfl)
section
variable {P:Program} {N:Nat} {ops:Array Oper} {Q:Exit->Act->World->Prop} {rest:List Oper} {s:Base} {e:Env} {m:List Piece} {d:Nat} {ty:TypeId} {pos:String} {af:Array Edge}
theorem a0n {l:List Oper}{g c:Nat}(n:Nat)(h:AL P N ops Q s l e m')(hm:Upd m (.buf g E k xs c) (.buf g E k (xs.take n) c) m':=by (repeat (first|apply Av.Upd.here|apply Av.Upd.there))):AL P N ops Q s l e m:=AL.mk λok w a hS ha=>by
 obtain⟨pre,post,rfl,rfl⟩:=hm.parts;exact h.run ok w a (hS.trim n) ha
theorem Ew {l:List Oper}{g:Nat}(hi:ImpC v v')(h:AL P N ops Q s l e m')(hm:Upd m (.var g T v) (.var g T v') m':=by (repeat (first|apply Av.Upd.here|apply Av.Upd.there))):AL P N ops Q s l e m:=AL.mk λok w a hS ha=>by
 obtain⟨pre,post,rfl,rfl⟩:=hm.parts;exact h.run ok w a (hS.asVar hi) ha
theorem jK {c:Code}{g:Nat}(hi:ImpC v v')(h:AC P N c Q s e m')(hm:Upd m (.var g T v) (.var g T v') m':=by (repeat (first|apply Av.Upd.here|apply Av.Upd.there))):AC P N c Q s e m:=AC.mk λok w a hS ha=>by
 obtain⟨pre,post,rfl,rfl⟩:=hm.parts;exact h.run ok w a (hS.asVar hi) ha
theorem IL {x:Exit}{g:Nat}(hi:ImpC v v')(h:AE N x Q s e m')(hm:Upd m (.var g T v) (.var g T v') m':=by (repeat (first|apply Av.Upd.here|apply Av.Upd.there))):AE N x Q s e m:=AE.mk λok w a hS ha=>by
 obtain⟨pre,post,rfl,rfl⟩:=hm.parts;exact h.run ok w a (hS.asVar hi) ha
theorem a0P {Tn:TypeId}{b:Nat}[t:TyE P T E k b]{kn:IntKind}[ti:TyI P Tn kn]{zv:AV}[tz:TyO P E zv]{ko:Operand}{g i c:Nat}{qi:Int}(q:Nat)(h:∀ g' c',i+q<=c'->AL P N ops Q s rest ((d,.lit (.slice (some ⟨g',0,none⟩) (i+q) c'))::e) (.buf g' E k (xs.take i++List.replicate q zv) c'::m))
  (hx:ev e xo=some (.lit (.slice (some ⟨g,0,none⟩) i c)):=by exact rfl) (hk:ev e ko=some (int qi):=by exact rfl) (hq:qi=(q:Int):=by first|exact rfl|omega) (hm:Has m (.buf g E k xs c):=by (repeat (first|exact Av.Has.here|apply Av.Has.there))) (hi:i<=xs.length:=by first|omega|(simp;done)|(simp;omega)) (hc:c<i+q:=by omega) (h0:0<q:=by omega)
  (hb:(i+q)*b<=140737488355328:=by first|omega|(simp;done)|(simp;omega)) (hl:i+q<=maxLen:=by first|(simp[maxLen];done)|(simp[maxLen];omega)) (hd:Nat.blt d N=true:=by exact rfl) :
  AL P N ops Q s (⟨some d,.call ⟨.builtin .append,#[xo,ko],#[T,Tn]⟩,ty,pos,af,none⟩::rest) e m:=by
 subst hq;refine mK (λok w B hS hB=>?_) hd;obtain⟨iz,z,q1,q2,hzk,hik,hib⟩:=t.zero;obtain⟨cs1,cs2,a1,a2,a3,a4,a5⟩:=hS.at_ _ hm.mem;have hcl:=a2.len a3;have h1:=a2.take a3 hi;have hik':i*k<=cs1.length:=by rw[hcl];exact Nat.mul_le_mul_right k hi
 have hl1:(cs1.take (i*k)).length=i*k:=by simp;omega
 have hkp:0<k:=nlb t.k0;have hzc:∃ cz,eG 8 zv=some cz/\z.cells.toList=cz:=by
  have e1:=tz.out;have e2:=tz.is;cases hz:eG 8 zv with
  | none=>simp[hz] at e2
  | some cz=>
   simp[q1,q2,hz] at e1;exact⟨cz,rfl,e1.1⟩
 obtain⟨cz,hz1,hz2⟩:=hzc;have hf:(Builtin.firstCells iz.size i (.slice (some ⟨g,0,none⟩) i c)).run P w.drew=.ok (cs1.take (i*k)).toArray w.drew:=by
  refine run_firstCells_some (P:=P) w.drew iz.size _ ⟨g,0,none⟩ i c _ (by rw[hl1,hik]) (λj v hj=>?_);rw[add_mid];show w.cell? _=some v;rw[cell_of_row _ _ _ _ _ _ a1];have hlt:=(List.getElem?_eq_some_iff.1 hj).1;rw[List.getElem?_take_of_lt om] at hj;simp only[Nat.zero_add,List.getElem?_toArray];rw[List.getElem?_append_left om];exact hj
 have hsm:i+q<=9223372036854775807:=by simpa[maxLen] using hl
 have hqb:q*b<=(i+q)*b:=Nat.mul_le_mul_right b om;have hr:=Go.Lib.run_append_grow_zeros (P:=P) w T Tn ty E iz z .i64 kn t.l.out ti.out q1 q2 (some ⟨g,0,none⟩) i c _ hf q h0 om hc om (by rw[hib];omega) (by rw[hib];exact growslice_fits hc hb);have hge:=grownCap_ge w (i+q) c E;have hle:=grownCap_le_maxLen w (i+q) c E hl;generalize grownCap w (i+q) c E=c' at hr hge hle;have hE:Ext w (w.drew.alloc (.cells ((cs1.take (i*k)).toArray++Builtin.zeroCells z.cells q++Builtin.zeroCells z.cells (c'-(i+q))) E)):=Ext.trans' (Ext.drew w) (Ext.alloc w.drew _);have hblk:(w.drew.alloc (.cells ((cs1.take (i*k)).toArray++Builtin.zeroCells z.cells q++Builtin.zeroCells z.cells (c'-(i+q))) E)).heap[w.heap.size]?=some (.cells ((cs1.take (i*k)++(List.replicate q cz).flatten)++(Builtin.zeroCells z.cells (c'-(i+q))).toList).toArray E (0,0)):=by
  have e1:=PU z.cells q;rw[hz2] at e1;rw[<- e1,show ((cs1.take (i*k)++(Builtin.zeroCells z.cells q).toList)++(Builtin.zeroCells z.cells (c'-(i+q))).toList).toArray=(cs1.take (i*k)).toArray++Builtin.zeroCells z.cells q++Builtin.zeroCells z.cells (c'-(i+q)) by apply Array.ext';simp];exact heap_alloc_new w.drew _
 have hzr:=HY (ok:=ok) (w:=w) hz1;have hzs:zv.size=k:=by rw[<- hzr.len,<- hz2,<- hzk];simp
 obtain⟨ok',r1,r2⟩:=St.newBuf hS hE sm hblk (h1.append (RCs.replicate hzr q)) (λx hx=>(List.mem_append.1 hx).elim (λh=>a3 x (List.mem_of_mem_take h)) (λh=>by rw[(List.mem_replicate.1 h).2];exact hzs)) (c:=c') (by
  have e2:((List.replicate q cz).flatten).length=q*k:=by
   rw[<- hz2,<- PU];simp[hzk,size_zeroCells]
  simp only[List.length_append,hl1,e2,Array.length_toList,size_zeroCells,hzk,<- Nat.add_mul];congr 1
  omega) hle
 have hg1:=hB.lit hx;have hg2:=hB.lit hk;exact⟨_,.slice (some ⟨w.heap.size,0,none⟩) (i+q) c',_,ok',_,by simp[execOp,resolve,invoke,builtin,hg1,hg2,hr],RVl rfl,r1,r2,h _ _ hge⟩
theorem a0Q {b:Nat}[t:TyE P T E k b]{yo:Operand}{g i c o2 j2 n2 cc2:Nat}(h:AL P N ops Q s rest ((d,.lit (.slice (some ⟨g,0,none⟩) (i+n2) c))::e) m')(hx:ev e xo=some (.lit (.slice (some ⟨g,0,none⟩) i c)):=by exact rfl)
  (hy:ev e yo=some (.lit (.slice (some ⟨g,o2,none⟩) n2 cc2)):=by exact rfl) (ho2:o2=j2*k:=by first|exact rfl|simp) (hm:Upd m (.buf g E k xs c) (.buf g E k (over xs i ((xs.drop j2).take n2)) c) m':=by (repeat (first|apply Av.Upd.here|apply Av.Upd.there))) (hi:i<=xs.length:=by first|omega|(simp;done)|(simp;omega)) (hj2:j2+n2<=xs.length:=by first|omega|(simp;done)|(simp;omega)) (hc:i+n2<=c:=by omega) (hd:Nat.blt d N=true:=by exact rfl) :
  AL P N ops Q s (⟨some d,.call ⟨.builtin .append,#[xo,yo],#[T,T]⟩,ty,pos,af,none⟩::rest) e m:=by
 subst ho2;refine zQ (v:=.lit (.slice (some ⟨g,0,none⟩) (i+n2) c)) (λok w B hS hB=>?_) hd;have hg1:=hB.lit hx;have hg2:=hB.lit hy;obtain⟨iz,z,q1,q2,hzk,hik,hib⟩:=t.zero;obtain⟨pre,post,rfl,rfl⟩:=hm.parts;obtain⟨cs1,cs2,a1,a2,a3,a4,a5⟩:=hS.at_ (.buf g E k xs c) sm;have h1:=a2.run (a:=j2) (n:=n2) a3 hj2;have hcl:=a2.len a3;have hlen:((cs1.drop (j2*k)).take (n2*k)).length=n2*k:=by
  have:=Nat.mul_le_mul_right k hj2;rw[Nat.add_mul] at this;simp only[List.length_take,List.length_drop,hcl];omega
 have hf:(Builtin.firstCells iz.size n2 (.slice (some ⟨g,j2*k,none⟩) n2 cc2)).run P w=.ok ((cs1.drop (j2*k)).take (n2*k)).toArray w:=by
  refine run_firstCells_some (P:=P) w iz.size _ ⟨g,j2*k,none⟩ n2 cc2 _ (by rw[hlen,hik]) (λq v hq=>?_);rw[add_mid,cell_of_row _ _ _ _ _ _ a1];have hlt:=(List.getElem?_eq_some_iff.1 hq).1;rw[hlen] at hlt;rw[List.getElem?_take_of_lt hlt,List.getElem?_drop] at hq;have hq':=(List.getElem?_eq_some_iff.1 hq).1;simp only[List.getElem?_toArray];rw[List.getElem?_append_left hq'];exact hq
 obtain⟨w',r1,r2,r3⟩:=St.overB (P:=P) hS h1 (λx hx=>a3 x (List.mem_of_mem_drop (List.mem_of_mem_take hx))) hi (by simp;omega);refine⟨.slice (some ⟨g,0,none⟩) (i+n2) c,w',ok,_,?_,RVl rfl,r2,r3,h⟩;have hr:(Builtin.append_ #[T,T] ty #[.slice (some ⟨g,0,none⟩) i c,.slice (some ⟨g,j2*k,none⟩) n2 cc2]).run P w=.ok (.slice (some ⟨g,0,none⟩) (i+n2) c) w':=by
  rw[hik] at hf;simp[Builtin.append_,run_underlying t.l.out,Go.sizeOf,typeInfo,q1,Builtin.lenOf,hc,hf,add_mid,hik,r1]
 simp[execOp,resolve,invoke,builtin,hg1,hg2,hr]
theorem a0s {op:Op}(hrun:∀ ok w a,St s ok m w->Sat N ok w e a->∃ u w' ok',(execOp a.eval ⟨none,op,ty,pos,af,none⟩).run P w=.ok (.value u) w'/\St s ok' m' w'/\Stp ok w ok' w')(h:AL P N ops Q s rest e m') :
  AL P N ops Q s (⟨none,op,ty,pos,af,none⟩::rest) e m:=AL.mk λok w a hS ha=>
 wpList_plain rfl λK hK=>by
  obtain⟨u,w',ok',h1,h3,h4⟩:=hrun ok w a hS ha;unfold Oper.wp;rw[h1];exact hK _ _ (h.run _ _ _ h3 (ha.stp h4))
theorem a0F {b:Nat}[t:TyE P T E k b]{zv:AV}[tz:TyO P E zv]{g o j n cc c:Nat}(h:AL P N ops Q s rest e m')(hx:ev e xo=some (.lit (.slice (some ⟨g,o,none⟩) n cc)):=by exact rfl)
  (ho:o=j*k:=by first|exact rfl|simp) (hm:Upd m (.buf g E k xs c) (.buf g E k (over xs j (List.replicate n zv)) c) m':=by (repeat (first|apply Av.Upd.here|apply Av.Upd.there))) (hj:j<=xs.length:=by first|omega|(simp;done)|(simp;omega)) (hc:j+n<=c:=by omega) (h0:0<n:=by omega) :
  AL P N ops Q s (⟨none,.call ⟨.builtin .clear,#[xo],#[T]⟩,ty,pos,af,none⟩::rest) e m:=by
 subst ho;refine a0s (λok w B hS hB=>?_) h;have hg1:=hB.lit hx;obtain⟨iz,z,q1,q2,hzk,hik,hib⟩:=t.zero;obtain⟨pre,post,rfl,rfl⟩:=hm.parts;have hzc:∃ cz,eG 8 zv=some cz/\z.cells.toList=cz:=by
  have e1:=tz.out;have e2:=tz.is;cases hz:eG 8 zv with
  | none=>simp[hz] at e2
  | some cz=>
   simp[q1,q2,hz] at e1;exact⟨cz,rfl,e1.1⟩
 obtain⟨cz,hz1,hz2⟩:=hzc;have hzr:=HY (ok:=ok) (w:=w) hz1;have hzs:zv.size=k:=by rw[<- hzr.len,<- hz2,<- hzk];simp
 obtain⟨w',r1,r2,r3⟩:=St.overB (P:=P) hS (RCs.replicate hzr n) (λx hx=>by rw[(List.mem_replicate.1 hx).2];exact hzs) hj (by simpa using hc);refine⟨.tuple #[],w',ok,?_,r2,r3⟩;have e1:=PU z.cells n;rw[hz2] at e1;have hn:n≠0:=by omega
 simp[execOp,resolve,invoke,builtin,hg1,Builtin.clear_,run_underlying t.l.out,zeroValue,typeInfo,q1,q2];rw[e1];simp[r1]
theorem EP {f : FuncId} {fn : Func} {en : Array Value → Sem Value} {xs : List Operand} {ts : Array TypeId} {args : List AV} (hf : P.funcs[f]? = some fn) (hn : (fn.name == "runtime.NumGoroutine") = false) (hb : fn.body.isNone = true) (hx : Extern.findNext fn = none) (he : Extern.find fn = some en)
  (ha:evs e xs=some args) (hnt:args.all U8=true) (hd:Nat.blt d N=true) (hr:∀ ok w cs,St s ok m w->RVs ok w args cs->∃ u,(en cs.toArray).run P w=.ok u w/\RV ok w v u) (h:AL P N ops Q s rest ((d,v)::e) m):AL P N ops Q s (⟨some d,.call ⟨.value (.func f),xs.toArray,ts⟩,ty,pos,af,none⟩::rest) e m:=
 dR (λok w a hS hA=>by
  have hev:a.eval (.func f)=.func (.func f) #[] #[]:=rfl;obtain⟨u,h1,h2⟩:=hr ok w _ hS (hA.evals ha hnt);have hc:=run_callFunc_extern (P:=P) hf hn hb hx he (xs.map a.eval).toArray w;exact⟨u,by simp[execOp,resolve,hev,Deferred.ofValue,invoke,hc,h1],h2⟩) hd h
theorem a5b {ok:Ok}{m:List Piece}{g o n cc c g2 o2 n2 cc2 c2:Nat}{tS:TypeId}{b:Nat}{ys:List AV}{cs:List Value}[t:TyE P tS E k b](tR:TypeId)(hS:St s ok m w)(hne:g≠g2)(hm:Piece.buf g E k xs c∈m)(hm2:Piece.buf g2 E k ys c2∈m)(hx:0<ys.length)(hv:RVs ok w [.lit (.slice (some ⟨g,o,none⟩) n cc),.lit (.slice (some ⟨g2,o2,none⟩) n2 cc2)] cs) :
  (Extern.SlicesOverlaps.overlaps #[tS,tS] #[tR] cs.toArray).run P w=.ok (.bool false) w:=by
 obtain⟨u1,us,rfl,h1,u2,us2,rfl,h2,rfl⟩:=hv;obtain rfl:=RV0.lit h1;obtain rfl:=RV0.lit h2;obtain⟨cs1,cs2,a1,a2,a3,a4,a5⟩:=hS.at_ _ hm;obtain⟨ds1,ds2,b1,b2,b3,b4,b5⟩:=hS.at_ _ hm2;have hk:0<k:=nlb t.k0;have hsz:0<ds1.length:=by rw[b2.len b3];exact Nat.mul_pos hx hk
 exact Go.Lib.run_overlaps_apart w tS tR E t.l.out k (λ_=>run_sizeOf t.l.size) ⟨g,o,none⟩ ⟨g2,o2,none⟩ n cc n2 cc2 hne E E (cs1.length+cs2.length) (ds1.length+ds2.length) (by simp[World.shape?,a1]) (by simp[World.shape?,b1]) om (by simp[World.frozen?,a1]) (by simp[World.frozen?,a1])
theorem b1e {ok:Ok}{mid:List Piece}{g g2:Nat}{c c2:Nat}{ys:List AV}(hS:St s ok (pre++.buf g E k xs c::(mid++.buf g2 E k ys c2::post)) w):g≠g2:=by
 have h:=hS.dis;rw[List.pairwise_append] at h;have h1:=h.2.1;rw[List.pairwise_cons] at h1;have h2:=h1.1 (.buf g2 E k ys c2) sm g rfl;rintro rfl;exact h2 rfl
theorem a0K {b:Nat}[t:TyE P T E k b]{n:Nat}{parts:List (Nat × Operand)}{vals:List AV}(h:∀ g,AL P N ops Q s rest ((d,.lit (.slice (some ⟨g,0,none⟩) n n))::e) (.buf g E k vals n::m))(hx:evs e (parts.map (·.2))=some vals:=by exact rfl)
  (hi:parts.map (·.1)=List.range n:=by exact rfl) (hk:vals.all (λv=>Nat.beq v.size k)=true:=by exact rfl) (hn:vals.all U8=true:=by exact rfl) (hs:Nat.ble (n*k) 65536=true:=by exact rfl) (hn0:Nat.blt 0 n=true:=by exact rfl) (hd:Nat.blt d N=true:=by exact rfl) :
  AL P N ops Q s (⟨some d,.buildSlice T n parts.toArray,ty,pos,af,none⟩::rest) e m:=by
 have hkv:∀ v∈vals,v.size=k:=λz hz=>Nat.eq_of_beq_eq_true (List.all_eq_true.1 hk z hz);have hkp:0<k:=nlb t.k0;have hnp:0<n:=nlb hn0;have hnk:n*k<=65536:=nlb hs;refine mK (λok w A hS hA=>?_) hd;obtain⟨vs,hvs,hmap⟩:=OO hA hx hn;have hpv:=PR.of_vs hvs;have hlv:=hpv.length;have hsv:=hpv.sizes hkv;have hlen:vs.length=n:=by
  have h1:((parts.map (·.2)).map A.eval).length=vs.length:=by rw[hlv,(hA.evals hx hn).length.symm]
  have h2:(parts.map (·.1)).length=n:=by rw[hi];simp
  simp at h1 h2;omega
 obtain⟨i,z,q1,q2,hzk,_,_⟩:=t.zero;have hzr:(zeroValue E).run P w=.ok z w:=by simp[zeroValue,typeInfo,q1,q2]
 subst hlen;have hcells:((Array.range (vs.length*k)).map (z.cells[· % z.cells.size]!))=(fl (List.replicate vs.length (.agg z.cells))).toArray:=by
  apply Array.ext';rw[UC z.cells (v:=.agg z.cells) rfl,hzk];simp
 have hset:=QP (z:=.agg z.cells) vs [] (λv hv=>by rw[hsv v hv];exact hzk);simp only[List.nil_append,List.length_nil] at hset;have hfill:=(KQ (place:=λi=>some (i*k,k)) (by
  intro i u hiu;obtain⟨hil,hie⟩:=List.getElem?_eq_some_iff.1 hiu;rw[List.getElem_replicate] at hie;subst hie;have hil':i<vs.length:=by simpa using hil
  rw[GK (k:=k) (λx hx=>by
   have:=List.mem_of_mem_take hx;rw[List.mem_replicate] at this;rw[this.2];exact hzk)]
  simp[Nat.min_eq_left (Nat.le_of_lt hil')];exact hzk.symm) hset).1
 have hE:=Ext.alloc w (.cells (fl vs).toArray E);have hblk:(w.alloc (.cells (fl vs).toArray E)).heap[w.heap.size]?=some (.cells ((fl vs)++[]).toArray E (0,0)):=by rw[List.append_nil];exact heap_alloc_new w _
 have hcl:(fl vs).length=vs.length*k:=GK hsv;obtain⟨ok',r1,r2⟩:=St.newBuf hS hE sm hblk (hpv.cells) hkv (c:=vs.length) (by simp[hcl]) (by
  have:vs.length<=vs.length*k:=Nat.le_mul_of_pos_right _ hkp;simp only[maxLen];omega)
 refine⟨_,.slice (some ⟨w.heap.size,0,none⟩) vs.length vs.length,w.alloc (.cells (fl vs).toArray E),ok',_,?_,RVl rfl,r1,r2,h _⟩;have h0:¬ vs.length*k > 2 ^ 24:=by omega
 have h1:¬ vs.length*k=0:=by
  have:=Nat.mul_pos hnp hkp;omega
 have hmap':(Array.map (λ(x:Nat × Operand)=>(x.fst,A.eval x.snd)) parts.toArray).toList=(List.range' 0 vs.length).zip vs:=by rw[hmap,hi,List.range_eq_range']
 simp only[execOp,Instr.buildSlice,Sem.run_bind,run_underlying t.l.out,Result.andThen_ok,run_sizeOf t.l.size,h0,h1,if_false,Sem.run_pure,hzr];rw[hmap',hcells,hfill];simp[newRow,newObj,Sem.run]
end
end

section lists
variable {α:Type}
def dM (T:List α):List Nat->Option (List α)
 | []=>some []
 | q::F=>(match T[q]?,dM T F with
  | some p,some ps=>some (p::ps)
  | _,_=>none)
def X9 (T:List α):List Nat->List α->List α
 | q::F,p::D=>X9 (T.set q p) F D
 | _,_=>T
def iE:Nat->List Nat->Bool
 | _,[]=>true
 | lo,q::F=>Nat.ble lo q&&iE (q+1) F
theorem Kh:∀ {lo:Nat} {F:List Nat},iE lo F=true->∀ q∈F,lo<=q
 | _,[],_=>by simp
 | lo,q::F,h=>by
  simp only[iE,Bool.and_eq_true] at h;have h1:=nlb h.1;intro r hr;rcases List.mem_cons.1 hr with rfl|hr
  ·exact h1
  have:=Kh h.2 r hr;omega
theorem mU:∀ {F:List Nat} {D T:List α},(X9 T F D).length=T.length
 | [],D,T=>by cases D <;> rfl
 | q::F,[],T=>rfl
 | q::F,p::D,T=>by rw[X9,mU];simp
theorem vQ:∀ {F:List Nat} {D T:List α} {q:Nat},q ∉ F->(X9 T F D)[q]?=T[q]?
 | [],D,T,q,_=>by cases D <;> rfl
 | r::F,[],T,q,_=>rfl
 | r::F,p::D,T,q,h=>by
  simp only[List.mem_cons,not_or] at h;rw[X9,vQ h.2,List.getElem?_set_ne (Ne.symm h.1)]
theorem QQ:∀ {F:List Nat} {D T T':List α} {q lo:Nat},iE lo F=true->F.length=D.length->q∈F->q<T.length->q<T'.length->(X9 T F D)[q]?=(X9 T' F D)[q]?
 | [],_,_,_,_,_,_,_,h,_,_=>by simp at h
 | r::F,[],_,_,_,_,_,h,_,_,_=>by simp at h
 | r::F,p::D,T,T',q,lo,hr,hl,hq,h1,h2=>by
  simp only[iE,Bool.and_eq_true] at hr;rw[X9,X9];by_cases hF:q∈F
  ·exact QQ hr.2 (by simpa using hl) hF (by simpa using h1) (by simpa using h2)
  have:q=r:=by
   rcases List.mem_cons.1 hq with h|h
   ·exact h
   exact absurd h hF
  subst this;rw[vQ hF,vQ hF,List.getElem?_set_self h1,List.getElem?_set_self h2]
theorem GH {T:List α}:∀ {F:List Nat} {C:List α},dM T F=some C->F.length=C.length/\∀ q∈F,q<T.length
 | [],C,h=>by simp[dM] at h;subst h;simp
 | q::F,C,h=>by
  unfold dM at h;split at h
  ·rename_i p ps h1 h2;injection h with h
   subst h;obtain⟨g1,g2⟩:=GH h2;refine⟨by simp[g1],λr hr=>?_⟩;rcases List.mem_cons.1 hr with rfl|hr
   ·exact(List.getElem?_eq_some_iff.1 h1).1
   exact g2 r hr
  cases h
theorem Bc {T T':List α}:∀ {F:List Nat},(∀ q∈F,T[q]?=T'[q]?)->dM T F=dM T' F
 | [],_=>rfl
 | q::F,h=>by
  unfold dM;rw[h q sm,Bc (λr hr=>h r (by simp[hr]))]
theorem Sa {k:Nat}:∀ {F:List Nat} {pre X:List α},pre.length=k->(∀ q∈F,k<=q)->dM (pre++X) F=dM X (F.map (· - k))
 | [],_,_,_,_=>rfl
 | q::F,pre,X,hp,h=>by
  have h1:=h q sm;rw[List.map_cons,dM,dM,Sa hp (λr hr=>h r (by simp[hr])),List.getElem?_append_right om,hp]
theorem Ij {k:Nat}:∀ {F:List Nat} {D pre X:List α},pre.length=k->(∀ q∈F,k<=q)->X9 (pre++X) F D=pre++X9 X (F.map (· - k)) D
 | [],D,_,_,_,_=>by cases D <;> rfl
 | q::F,[],_,_,_,_=>rfl
 | q::F,p::D,pre,X,hp,h=>by
  have h1:=h q sm;rw[List.map_cons,X9,X9,List.set_append_right _ _ om,Ij hp (λr hr=>h r (by simp[hr])),hp]
theorem Kg {k:Nat}:∀ {lo:Nat} {F:List Nat},iE lo F=true->k<=lo->iE (lo-k) (F.map (· - k))=true
 | _,[],_,_=>rfl
 | lo,q::F,h,hk=>by
  simp only[iE,Bool.and_eq_true] at h;have h1:=nlb h.1;have:=Kg (k:=k) h.2 om;rw[List.map_cons,iE,bet];refine⟨Nat.ble_eq_true_of_le om,?_⟩
  rwa [show q-k+1=q+1-k by omega]
theorem SK:∀ {F:List Nat} {X C D:List α},iE 0 F=true->dM X F=some C->D.length=C.length->∃ rest,X.Perm (C++rest)/\(X9 X F D).Perm (D++rest)
 | [],X,C,D,_,hg,hd=>by
  simp[dM] at hg;subst hg;have:D=[]:=List.eq_nil_of_length_eq_zero (by simpa using hd);subst this;exact⟨X,List.Perm.refl _,List.Perm.refl _⟩
 | q::F,X,C,D,hr,hg,hd=>by
  unfold dM at hg;split at hg
  ·rename_i c C' h1 h2;injection hg with hg
   subst hg
   match D,hd with
   | d::D,hd=>
    obtain⟨hlt,he⟩:=List.getElem?_eq_some_iff.1 h1;have hX:X=X.take q++[c]++X.drop (q+1):=by
     conv=>lhs;rw[<- List.take_append_drop q X,List.drop_eq_getElem_cons hlt,he]
     simp
    simp only[iE,Bool.and_eq_true] at hr;have hge:=Kh hr.2;have hpl:(X.take q++[c]).length=q+1:=by simp;omega
    have hpl':(X.take q++[d]).length=q+1:=by simp;omega
    have hset:X.set q d=X.take q++[d]++X.drop (q+1):=by
     rw[List.set_eq_take_append_cons_drop,if_pos hlt];simp
    have h2':dM (X.drop (q+1)) (F.map (· - (q+1)))=some C':=by
     rw[<- Sa hpl hge,<- hX,h2]
    obtain⟨rest,g1,g2⟩:=SK (F:=F.map (· - (q+1))) (D:=D) (by
     have:=Kg (k:=q+1) hr.2 (Nat.le_refl _)
     rwa [Nat.sub_self] at this) h2' (by simpa using hd)
    refine⟨X.take q++rest,?_,?_⟩
    ·conv=>lhs;rw[hX]
     rw[laa,List.singleton_append];refine List.perm_middle.trans ?_;rw[List.cons_append];refine List.Perm.cons _ ?_;refine(List.Perm.append_left _ g1).trans ?_;rw[<- laa,<- laa];exact List.Perm.append_right _ List.perm_append_comm
    rw[X9,hset,Ij hpl' hge,laa,List.singleton_append];refine List.perm_middle.trans ?_;rw[List.cons_append];refine List.Perm.cons _ ?_;refine(List.Perm.append_left _ g2).trans ?_;rw[<- laa,<- laa];exact List.Perm.append_right _ List.perm_append_comm
  cases hg
termination_by F=>F.length
end lists
structure Rec where
 F:List Nat
 C:List Piece
 D:List Piece
 N:List Piece
 wr:Bool
 fresh:Bool
 x:AV
def xC (r:Rec)(T:List Piece):List Piece:=bif r.wr then X9 T r.F r.D++r.N else T
def D7 (L:Nat->Bool):Nat->List Rec->List Piece->List Piece
 | _,[],T=>T
 | i,r::rs,T=>D7 L (i+1) rs (bif L i then xC r T else T)
theorem rV {L:Nat->Bool}{r:Rec}:∀ {rs:List Rec} {i:Nat} {T:List Piece},D7 L i (rs++[r]) T=bif L (i+rs.length) then xC r (D7 L i rs T) else D7 L i rs T
 | [],i,T=>by simp[D7]
 | q::rs,i,T=>by
  rw[List.cons_append,D7,D7,rV];simp only[List.length_cons,show i+1+rs.length=i+(rs.length+1) by omega]
theorem UJ {L L':Nat->Bool}:∀ {rs:List Rec} {i:Nat} {T:List Piece},(∀ j,i<=j->j<i+rs.length->L j=L' j)->D7 L i rs T=D7 L' i rs T
 | [],_,_,_=>rfl
 | r::rs,i,T,h=>by
  rw[D7,D7,h i (Nat.le_refl _) sm,UJ (λj h1 h2=>h j om (by simp;omega))]
abbrev nU (rs:List Rec)(T:List Piece):List Piece:=D7 (λ_=>true) 0 rs T
def meets (F F':List Nat)(w w':Bool):Bool:=(w || w')&&F.any (TT F')
theorem TA {F F':List Nat}{w w':Bool}{q:Nat}(h1:q∈F)(h2:q∈F')(hw:w=true\/w'=true):meets F F' w w'=true:=by
 unfold meets;rw[bet];refine⟨by rcases hw with rfl|rfl <;> simp,List.any_eq_true.2 ⟨q,h1,?_⟩⟩;rw[a7D];simpa using h2
def conf (l:List Oper)(j:Nat)(F:List Nat)(w:Bool):Nat->List Rec->Bool
 | _,[]=>true
 | i,r::rs=>(!(meets F r.F w r.wr) || kJ l 2 j i)&&conf l j F w (i+1) rs
theorem Cs {l:List Oper}{j:Nat}{F:List Nat}{w:Bool}:∀ {rs:List Rec} {i:Nat},conf l j F w i rs=true->∀ (k:Nat) (r:Rec),rs[k]?=some r->meets F r.F w r.wr=true->kJ l 2 j (i+k)=true
 | [],_,_,k,r,hk,_=>by simp at hk
 | q::rs,i,h,k,r,hk,hm=>by
  simp only[conf,Bool.and_eq_true] at h;cases k with
  | zero=>
   simp at hk;subst hk;simpa[hm] using h.1
  | succ k=>
   have:=Cs h.2 k r (by simpa using hk) hm
   rwa [show i+1+k=i+(k+1) by omega] at this
def Qh (l:List Oper)(j:Nat):Bool:=(List.range l.length).all λi=>Nat.ble i j || kJ l 2 i j
def pick (E:Env):List Nat->Env
 | []=>[]
 | t::ts=>(match lk E t with|some v=>(t,v)::pick E ts|none=>pick E ts)
def Q0 (o:Oper)(x:AV)(E:Env):Env:=match o.dst with|some d=>(d,x)::E|none=>E
section
variable {P:Program} {N:Nat} {Q:Exit->Act->World->Prop} {e:Env} {s:Base} {m:List Piece} {gl:List (Nat × AV)}
def Got (s:Base)(o:Oper)(D:List Piece)(x:AV)(a:Act)(w:World):Prop:=a.defers=[]/\∃ ok,St s ok D w/\∀ d,o.dst=some d->RV ok w x (a.tmps.getD d undef)
def OpOK (P:Program)(N:Nat)(gl:List (Nat × AV))(l:List Oper)(o:Oper)(E:Env)(C D:List Piece)(x:AV):Prop:=
 ∀ s:Base,s.gl=gl->AL P N l.toArray (Exit.then (Got s o D x) λ_ _ _=>False) s [o] E C
def uZ (l:List Oper)(i:Nat):Bool:=((l[i]?).map λo=>(match o.op with|.alloc _=>true|_=>false)&&(o.guard.isNone&&o.dst.isSome)&&o.after.toList.all λe=>!Region.binds .any e).getD false
def wP (l:List Oper)(i:Nat)(F:List Nat)(w:Bool)(rs:List Rec):Bool:=(!uZ l i || rs.all λr=>!r.fresh)&&conf l i F w 0 rs
def Af (l:List Oper)(j:Nat):Bool:=(List.range l.length).all λi=>Nat.ble i j || kJ l 5 i j || uZ l i
def ZZ (P:Program)(l:List Oper):Prop:=∀ (k:Nat) (o:Oper) (T:TypeId),l[k]?=some o->uZ l k=true->o.op=.alloc T->∃ z,TyO P T z
def Lst (P:Program)(l:List Oper)(i:Nat):Prop:=Qh l i=true\/(Af l i=true/\ZZ P l)
def Obl (P:Program)(N:Nat)(Q:Exit->Act->World->Prop)(s:Base)(gl:List (Nat × AV))(l:List Oper):List Oper->Nat->List Piece->Env->List Rec->Prop
 | [],_,T,E,_=>AE N .normal Q s E T
 | o::os,i,T,E,rs=>
  (∃ F C D x wr,dM T F=some C/\D.length=C.length/\(wr=false->D=C)/\iE 0 F=true/\wP l i F wr rs=true/\OpOK P N gl l o (pick E (rJ l o)) C D x /\
   Obl P N Q s gl l os (i+1) (bif wr then X9 T F D++[] else T) (Q0 o x E) (rs++[⟨F,C,D,[],wr,false,x⟩])) \/
  (∃ F C,dM T F=some C/\iE 0 F=true/\wP l i F true rs=true/\Lst P l i /\
   ∀ s':Base,s'.gl=gl->AL P N l.toArray (Exit.then (λa w=>∃ D N' x,D.length=C.length/\Got s' o (D++N') x a w/\Obl P N Q s gl l os (i+1) (X9 T F D++N') (Q0 o x E) (rs++[⟨F,C,D,N',true,true,x⟩])) λ_ _ _=>False) s' [o] (pick E (rJ l o)) C) \/
  (∃ d Ty z,uZ l i=true/\o.op=.alloc Ty/\o.dst=some d/\Lst P l i/\TyO P Ty z /\
   ∀ g,Obl P N Q s gl l os (i+1) (T++[.var g Ty z]) (Q0 o (ptr g) E) (rs++[⟨[],[],[],[.var g Ty z],true,true,ptr g⟩]))
def GY (N:Nat)(l:List Oper):Bool:=
 ((List.range l.length).all λi=>((l[i]?).map λo=>(o.after.toList.all λe=>!Region.binds .any e || Nat.blt e.on i)&&(match o.op with|.defer _|.select ..=>false|_=>true) &&
  (match o.dst with|some d=>Nat.blt d N&&((List.range l.length).all λk=>Nat.beq k i || (match GQ l k with|some d'=>!(Nat.beq d' d)|none=>true))|none=>true) &&
  ((rJ l o).all λt=>(List.range l.length).all λk=>(match GQ l k with|some d'=>!(Nat.beq d' t)|none=>true) || Nat.beq k i || (bif Nat.blt k i then kJ l 2 i k else kJ l 2 k i))).getD false)
structure ChkR (N:Nat)(l:List Oper):Prop where
 back:∀ i o,l[i]?=some o->∀ x∈o.after,Region.binds .any x=true->x.on<i
 lt:∀ (i:Nat) (o:Oper) (d:Nat),l[i]?=some o->o.dst=some d->d<N
 nodup:∀ (i k:Nat) (o o':Oper) (d:Nat),l[i]?=some o->l[k]?=some o'->o.dst=some d->o'.dst=some d->i=k
 looks:∀ (i k:Nat) (o o':Oper) (d:Nat),l[i]?=some o->l[k]?=some o'->o'.dst=some d->d∈rJ l o->k≠i->(k<i->kJ l 2 i k=true)/\(i<k->kJ l 2 k i=true)
theorem ChkR.of {l:List Oper}(h:GY N l=true):ChkR N l:=by
 have get:∀ i o,l[i]?=some o->(o.after.toList.all λe=>!Region.binds .any e || Nat.blt e.on i)=true /\
   (match o.dst with|some d=>Nat.blt d N&&((List.range l.length).all λk=>Nat.beq k i || (match GQ l k with|some d'=>!(Nat.beq d' d)|none=>true))|none=>true)=true /\
   ((rJ l o).all λt=>(List.range l.length).all λk=>(match GQ l k with|some d'=>!(Nat.beq d' t)|none=>true) || Nat.beq k i || (bif Nat.blt k i then kJ l 2 i k else kJ l 2 k i))=true:=λi o ho=>by
  have hi:i<l.length:=(List.getElem?_eq_some_iff.1 ho).1;have h:=List.all_eq_true.1 h i (by simpa using hi);simp only[ho,Option.map_some,Option.getD_some,Bool.and_eq_true] at h;exact⟨h.1.1.1,h.1.2,h.2⟩
 refine⟨λi o ho x hx hb=>?_,λi o d ho hd=>?_,λi k o o' d ho ho' hd hd'=>?_,λi k o o' d ho ho' hd' hlk hne=>?_⟩
 ·have h:=List.all_eq_true.1 (get i o ho).1 x (by simpa using hx);simp[hb] at h;exact h
 ·have h:=(get i o ho).2.1;rw[hd] at h;simp only[Bool.and_eq_true] at h;exact nlb h.1
 ·have h:=(get i o ho).2.1;rw[hd] at h;simp only[Bool.and_eq_true] at h;have hk:k<l.length:=(List.getElem?_eq_some_iff.1 ho').1;have h:=List.all_eq_true.1 h.2 k (by simpa using hk);simp[GQ,ho',hd'] at h;exact h.symm
 have hk:k<l.length:=(List.getElem?_eq_some_iff.1 ho').1;have h:=List.all_eq_true.1 (List.all_eq_true.1 (get i o ho).2.2 d hlk) k (by simpa using hk);simp only[GQ,ho',Option.bind_some,hd',Nat.beq_refl,Bool.not_true,qN hne,Bool.false_or] at h;refine⟨λhlt=>?_,λhlt=>?_⟩
 ·rwa [show Nat.blt k i=true from Nat.ble_eq_true_of_le hlt,cond_true] at h
 rwa [show Nat.blt k i=false by
  cases hb:Nat.blt k i
  ·rfl
  have:=nlb hb;omega,cond_false] at h
end
end Av
