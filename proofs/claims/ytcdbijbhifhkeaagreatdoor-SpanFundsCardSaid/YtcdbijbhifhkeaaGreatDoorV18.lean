/- . -/
import Derived.Deep.OwnRows
import Derived.Test.YtcdbijbhifhkeaaGreatDoorV15
namespace Av
open Go Go.RowKit Tw
section
variable {i:Nat}{l:Bs}{x:Operand}
def mV (l:Bs)(i:Nat):Nat × Nat:=Utf8.decode ⟨l.toArray⟩ i
theorem a7I (l:Bs)(i:Nat):(⟨l.toArray⟩:ByteArray).get! i=l.getD i 0:=by
 show (l.toArray)[i]! = _;simp[List.getD];rfl
theorem Jd (hi:i<l.length):1<=(mV l i).2/\i+(mV l i).2<=l.length /\
  (((l.getD i 0).toNat<128/\(mV l i).1=(l.getD i 0).toNat/\(mV l i).2=1)\/(128<=(l.getD i 0).toNat/\128<=(mV l i).1/\∀ k,0<k->k<(mV l i).2->128<=(l.getD (i+k) 0).toNat)):=by
 unfold mV Utf8.decode;simp only[a7I,yQ,Nat.add_zero,Utf8.runeError];have hb:=UInt8.toNat_lt (l.getD i 0);generalize (l.getD i 0).toNat=b0 at *;have key:∀ k,(l.getD (i+k) 0).toNat=(l.getD (i+k) 0).toNat:=λ_=>rfl;split
 ·rename_i h;exact⟨om,om,.inl ⟨h,rfl,rfl⟩⟩
 rename_i h;have one:∀ c:Nat,128<=c->1<=(c,1).2/\i+(c,1).2<=l.length/\((b0<128/\(c,1).1=b0/\(c,1).2=1)\/(128<=b0/\128<=(c,1).1/\∀ k,0<k->k<(c,1).2->128<=(l.getD (i+k) 0).toNat)):=
  λc hc=>⟨Nat.le_refl _,by simp only;omega,.inr ⟨om,hc,λk h1 h2=>by simp only at h2;omega⟩⟩
 split
 ·rename_i h1;simp only[Bool.and_eq_true,decide_eq_true_eq,beq_iff_eq] at h1;obtain⟨h1,h2,h3⟩:=h1;split
  ·rename_i h4;refine⟨by simp only;omega,by simp only;omega,.inr ⟨om,by simp only;omega,λk g1 g2=>?_⟩⟩;simp only at g2;obtain rfl:k=1:=by omega
   omega
  exact one _ dc
 split
 ·rename_i h1;simp only[Bool.and_eq_true,decide_eq_true_eq,beq_iff_eq] at h1;obtain⟨⟨h1,h2,h3⟩,h4,h5⟩:=h1;split
  ·rename_i h6;simp only[Bool.and_eq_true,decide_eq_true_eq,ge_iff_le] at h6;refine⟨by simp only;omega,by simp only;omega,.inr ⟨om,by simp only;omega,λk g1 g2=>?_⟩⟩;simp only at g2;rcases (by omega:k=1\/k=2) with rfl|rfl <;> omega
  exact one _ dc
 split
 ·rename_i h1;simp only[Bool.and_eq_true,decide_eq_true_eq,beq_iff_eq] at h1;obtain⟨⟨⟨h1,h2,h3⟩,h4,h5⟩,h6,h7⟩:=h1;split
  ·rename_i h8;simp only[Bool.and_eq_true,decide_eq_true_eq,ge_iff_le] at h8;refine⟨by simp only;omega,by simp only;omega,.inr ⟨om,by simp only;omega,λk g1 g2=>?_⟩⟩;simp only at g2;rcases (by omega:k=1\/k=2\/k=3) with rfl|rfl|rfl <;> omega
  exact one _ dc
 exact one _ dc
theorem a3c {c:Nat}(hi:i<l.length)(hc:c<128):((mV l i).1=c↔(l.getD i 0).toNat=c)/\((mV l i).1≠c->∀ j,i<=j->j<i+(mV l i).2->(l.getD j 0).toNat≠c):=by
 obtain⟨h1,h2,h3⟩:=Jd hi;rcases h3 with⟨h3,h4,h5⟩|⟨h3,h4,h5⟩
 ·refine⟨om,λhne j g1 g2=>?_⟩;obtain rfl:j=i:=by omega
  omega
 refine⟨om,λhne j g1 g2=>?_⟩;by_cases hj:j=i
 ·subst hj;omega
 have:=h5 (j-i) om om;rw[show i+(j-i)=j by omega] at this;omega
section
variable {P:Program} {N:Nat} {ops:Array Oper} {Q:Exit->Act->World->Prop} {rest:List Oper} {s:Base} {e:Env} {m:List Piece} {d:Nat} {ty:TypeId} {pos:String} {af:Array Edge}
theorem St.newObj {ok:Ok}{w:World}(h:St s ok m w){o:Obj}(ho:Obj.notCells o=true):∃ ok',St s ok' (.obj w.heap.size o::m) (w.alloc o)/\Stp ok w ok' (w.alloc o):=by
 have hk:∀ b j,b<w.heap.size->((ok b j/\b≠w.heap.size)↔ok b j):=λb j hb=>⟨λh=>h.1,λh=>⟨h,om⟩⟩;have rO:(w.alloc o).heap[w.heap.size]?=some o:=by
  show (w.heap.push o)[w.heap.size]?=some o;simp
 have hsz:(w.alloc o).heap.size=w.heap.size+1:=by
  show (w.heap.push o).size=_;simp
 refine⟨λb j=>ok b j/\b≠w.heap.size,h.grow (new:=[.obj w.heap.size o]) (Ext.alloc w o) hk (λb j hb=>⟨h.fresh b j om,om⟩) ?_ ?_ ?_ ?_⟩
 ·intro p hp;rw[List.mem_singleton] at hp;subst hp;exact⟨rO,ho⟩
 ·intro p hp g hg;rw[List.mem_singleton] at hp;subst hp;injection hg with hg
  omega
 ·intro p hp b j hb hh;rw[List.mem_singleton] at hp;subst hp;exact hh.2 hb
 exact List.pairwise_singleton _ _
theorem St.setObj {ok:Ok}{w:World}{pre post:List Piece}{g:Nat}{o o':Obj}(h:St s ok (pre++.obj g o::post) w)(ho:Obj.notCells o'=true) :
  St s ok (pre++.obj g o'::post) { w with heap:=w.heap.setIfInBounds g o' }/\Stp ok w ok { w with heap:=w.heap.setIfInBounds g o' }:=by
 have hpm:Piece.obj g o∈pre++.obj g o::post:=sm
 have hlt:g<w.heap.size:=(h.lt _ hpm g rfl).1;have hoth:∀ b,b≠g->(w.heap.setIfInBounds g o')[b]?=w.heap[b]?:=λb hb=>Array.getElem?_setIfInBounds_ne (Ne.symm hb);have hst:Stp ok w ok { w with heap:=w.heap.setIfInBounds g o' }:=⟨sm,λb j u h1 h2=>by
  have hne:b≠g:=by
   rintro rfl;exact h.own _ hpm b j rfl h2
  exact⟨(HZ (hoth b hne)).trans h1,h2⟩⟩
 refine⟨h.write (g:=g) (p':=.obj g o') rfl (.inl rfl) hst ⟨by simp[hlt],ho⟩ (λb j hb=>h.own _ hpm b j hb) sm rfl rfl rfl hoth (λ_ _ _=>Iff.rfl),hst⟩
theorem b2j {T:TypeId}[t:TyT P T](h:∀ g,AL P N ops Q s rest ((d,ptr g)::e) (.obj g (.stringIter ⟨l.toArray⟩ 0)::m))(hx:ev e x=some (str l):=by exact rfl)(hd:Nat.blt d N=true:=by exact rfl):AL P N ops Q s (⟨some d,.range T x,ty,pos,af,none⟩::rest) e m:=
 mK (λok w A hS hA=>by
  obtain⟨ok',g1,g2⟩:=hS.newObj (o:=.stringIter ⟨l.toArray⟩ 0) rfl;exact⟨_,.pointer (some ⟨w.heap.size,0,none⟩),w.alloc (.stringIter ⟨l.toArray⟩ 0),ok',_,by simp[execOp,hA.lit hx,Instr.range,run_underlying t.out,newObj,Sem.run],RVl rfl,g1,g2,h w.heap.size⟩) hd
theorem b2u {g:Nat}{pre post:List Piece}(hi:i<l.length)(hm:m=pre++.obj g (.stringIter ⟨l.toArray⟩ i)::post)(h:AL P N ops Q s rest ((d,.tup [d9 true,int i,.lit (.int .i32 (mV l i).1)])::e) (pre++.obj g (.stringIter ⟨l.toArray⟩ (i+(mV l i).2))::post))(hx:ev e x=some (ptr g):=by exact rfl)(hd:Nat.blt d N=true:=by exact rfl):AL P N ops Q s (⟨some d,.next x true,ty,pos,af,none⟩::rest) e m:=
 mK (λok w A hS hA=>by
  subst hm;obtain⟨ho,_⟩:=hS.at_ (.obj g (.stringIter ⟨l.toArray⟩ i)) sm;obtain⟨g1,g2⟩:=hS.setObj (o':=.stringIter ⟨l.toArray⟩ (i+(mV l i).2)) rfl;have hi':i<(⟨l.toArray⟩:ByteArray).size:=by rw[yQ];exact hi
  exact⟨.tup [d9 true,int i,.lit (.int .i32 (mV l i).1)],.tuple #[.bool true,.int .i64 i,.int .i32 (mV l i).1],_,ok,_,by
   simp[execOp,hA.lit hx,Instr.next,getObj,setObj,Sem.run,ho,hi',goInt,mV],⟨_,rfl,_,_,rfl,RV0.of_lit rfl,_,_,rfl,RV0.of_lit rfl,_,_,rfl,RV0.of_lit rfl,rfl⟩,g1,g2,h⟩) hd
theorem b2v {g:Nat}(hi:l.length<=i)(hm:Piece.obj g (.stringIter ⟨l.toArray⟩ i)∈m)(h:AL P N ops Q s rest ((d,.tup [d9 false])::e) m)(hx:ev e x=some (ptr g):=by exact rfl)(hd:Nat.blt d N=true:=by exact rfl):AL P N ops Q s (⟨some d,.next x true,ty,pos,af,none⟩::rest) e m:=
 dR (λok w A hS hA=>by
  obtain⟨ho,_⟩:=hS.at_ _ hm;have hi':¬ i<(⟨l.toArray⟩:ByteArray).size:=by rw[yQ];omega
  exact⟨.tuple #[.bool false],by simp[execOp,hA.lit hx,Instr.next,getObj,Sem.run,ho,hi'],⟨_,rfl,_,_,rfl,RV0.of_lit rfl,rfl⟩⟩) hd h
end
end
end Av

namespace Go.Proofs.Z
open Go Go.RowKit Tw Av
section
variable {a:Int}{ck:Nat}
abbrev MpE:=Int × Bs × Nat
variable {es:List MpE}
def iI (es:List MpE)(a:Int):Option Bs:=(es.find? λe=>decide (e.1=a)).map (·.2.1)
def cO (es:List MpE)(a:Int):Nat:=es.findIdx λe=>decide (e.1=a)
def fU (es:List MpE)(ck:Nat)(a:Int)(s:Bs):List MpE:=if cO es a<es.length then es.modify (cO es a) (λe=>(a,s,e.2.2)) else es++[(a,s,ck)]
def DR (es:List MpE)(ck:Nat)(a:Int):Nat:=if cO es a<es.length then ck else ck+1
def oQ (es:List MpE)(a:Int):List MpE:=es.eraseIdx (cO es a)
def MpN (es:List MpE):Prop:=(es.map (·.1)).Nodup
theorem a5B {s:Bs}:(fU es ck a s).map (·.1)=if cO es a<es.length then es.map (·.1) else es.map (·.1)++[a]:=by
 unfold fU;by_cases h:cO es a<es.length
 ·rw[if_pos h,if_pos h];apply List.ext_getElem
  ·simp
  intro i h1 h2;simp only[List.getElem_map,List.getElem_modify];by_cases e:cO es a=i
  ·rw[if_pos e];have:=List.findIdx_getElem (w:=h);subst e;exact(of_decide_eq_true this).symm
  rw[if_neg e]
 rw[if_neg h,if_neg h];simp
theorem a5C (h:¬ cO es a<es.length):a ∉ es.map (·.1):=by
 intro hm;obtain⟨e,he,rfl⟩:=List.mem_map.1 hm;exact h (List.findIdx_lt_length_of_exists ⟨e,he,sm⟩)
theorem ZE {s:Bs}(h:MpN es):MpN (fU es ck a s):=by
 unfold MpN;rw[a5B];split
 ·exact h
 rename_i hn;rw[List.nodup_append];refine⟨h,sm,λx hx y hy=>?_⟩;rw[List.mem_singleton.1 hy];exact λe=>a5C hn (e ▸ hx)
theorem a5F (h:MpN es):MpN (oQ es a):=by
 unfold MpN oQ;exact h.sublist ((List.eraseIdx_sublist _ _).map _)
theorem zA (e:MpE)(es:List MpE)(a:Int):iI (e::es) a=if e.1=a then some e.2.1 else iI es a:=by
 unfold iI;rw[List.find?_cons];by_cases h:e.1=a <;> simp[h]
theorem a5E (a:Int):iI [] a=none:=rfl
theorem JW (e:MpE)(es:List MpE)(a:Int):cO (e::es) a=if e.1=a then 0 else cO es a+1:=by
 unfold cO;rw[List.findIdx_cons];by_cases h:e.1=a <;> simp[h]
theorem ZF {ck:Nat}{a:Int}{s:Bs}(b:Int):∀ {es:List MpE},iI (fU es ck a s) b=if b=a then some s else iI es b
 | []=>by
  show iI [(a,s,ck)] b=_;rw[zA,a5E];by_cases h:b=a
  ·rw[if_pos h,if_pos h.symm]
  rw[if_neg h,if_neg (λe=>h e.symm)]
 | e::es=>by
  have ih:=ZF (ck:=ck) (a:=a) (s:=s) b (es:=es);by_cases h:e.1=a
  ·have h0:cO (e::es) a=0:=by rw[JW,if_pos h]
   have hp:fU (e::es) ck a s=(a,s,e.2.2)::es:=by
    unfold fU;rw[h0,if_pos sm];rfl
   rw[hp,zA,zA];by_cases hb:b=a
   ·rw[if_pos hb,if_pos hb.symm]
   rw[if_neg hb,if_neg (λe=>hb e.symm),if_neg (λe'=>hb (e'.symm.trans h))]
  have h0:cO (e::es) a=cO es a+1:=by rw[JW,if_neg h]
  have hp:fU (e::es) ck a s=e::fU es ck a s:=by
   unfold fU;rw[h0,List.length_cons];by_cases hl:cO es a<es.length
   ·rw[if_pos om,if_pos hl];rfl
   rw[if_neg om,if_neg hl];rfl
  rw[hp,zA,zA,ih];by_cases hb:b=a
  ·rw[if_pos hb,if_pos hb,if_neg (λe'=>h (e'.trans hb))]
  rw[if_neg hb,if_neg hb]
theorem a5D (h:a ∉ es.map (·.1)):iI es a=none:=by
 unfold iI;rw[List.find?_eq_none.2 (λe he=>by simpa using λe'=>h (List.mem_map.2 ⟨e,he,e'⟩))];rfl
theorem Ph {a:Int}(b:Int):∀ {es:List MpE},MpN es->iI (oQ es a) b=if b=a then none else iI es b
 | [],_=>by
  show none=_;split <;> rfl
 | e::es,hn=>by
  have hn':e.1 ∉ es.map (·.1)/\MpN es:=by
   unfold MpN at hn ⊢;rw[List.map_cons,List.nodup_cons] at hn;exact hn
  have ih:=Ph (a:=a) b hn'.2;by_cases h:e.1=a
  ·have hp:oQ (e::es) a=es:=by
    unfold oQ;rw[JW,if_pos h];rfl
   rw[hp,zA];by_cases hb:b=a
   ·rw[if_pos hb];exact a5D (by rw[hb,<- h];exact hn'.1)
   rw[if_neg hb,if_neg (λe'=>hb (e'.symm.trans h))]
  have hp:oQ (e::es) a=e::oQ es a:=by
   unfold oQ;rw[JW,if_neg h];rfl
  rw[hp,zA,zA,ih];by_cases hb:b=a
  ·rw[if_pos hb,if_pos hb,if_neg (λe'=>h (e'.trans hb))]
  rw[if_neg hb,if_neg hb]
def IQ:Bs:=List.replicate 64 0
structure DvX where
 n:Int
 es:List MpE
 ck:Nat
 ws:List (Int × Bs)
 on:Bool
 ar:Bool
 lf:Int
 st:Int
def dN (n:Int):DvX:=⟨n,[],0,[],true,false,0,0⟩
def mF (x:DvX)(a:Int):Bool:=decide (0<=a/\a<x.n)
def M0 (x:DvX)(a:Int):Bs:=(iI x.es a).getD IQ
def OH (es:List MpE)(ck:Nat)(w:Int × Bs):List MpE:=if w.2=IQ then oQ (fU es ck w.1 w.2) w.1 else fU es ck w.1 w.2
def kpC (es:List MpE)(ck:Nat)(w:Int × Bs):Nat:=DR es ck w.1
def jV (x:DvX)(w:Int × Bs):DvX:={ x with es:=OH x.es x.ck w,ck:=kpC x.es x.ck w }
theorem Qk {w:Int × Bs}(h:MpN es):MpN (OH es ck w):=by
 unfold OH;split
 ·exact a5F (ZE h)
 exact ZE h
theorem Uq {x:DvX}{w:Int × Bs}(h:MpN x.es)(b:Int):M0 (jV x w) b=if b=w.1 then w.2 else M0 x b:=by
 unfold M0 jV OH;dsimp only;split
 ·rename_i hz;rw[Ph b (ZE h),ZF];by_cases hb:b=w.1
  ·rw[if_pos hb,if_pos hb,hz];rfl
  rw[if_neg hb,if_neg hb,if_neg hb]
 rw[ZF];by_cases hb:b=w.1
 ·rw[if_pos hb,if_pos hb];rfl
 rw[if_neg hb,if_neg hb]
def gY (ws:List (Int × Bs))(a:Int):Option Bs:=(ws.reverse.find? λw=>decide (w.1=a)).map (·.2)
def fF (x:DvX)(a:Int):Bs:=(gY x.ws a).getD (M0 x a)
def nN (x:DvX)(w:Int × Bs):DvX:={ x with ws:=x.ws++[w] }
def iL (x:DvX):DvX:={ x.ws.foldl jV x with ws:=[] }
def mE (x:DvX):Bool:=!(x.ar&&decide (x.lf=0))
def V3 (x:DvX):DvX:={ x with lf:=if x.ar=true then x.lf-1 else x.lf,st:=IntKind.i64.wrap (x.st+1) }
def vD (x:DvX):DvX:={ x with on:=false }
def bN (x:DvX)(a:Int)(s:Bs):DvX × Int:=
 if x.on=false then (x,14) else if mF x a=false\/s.length≠64 then (x,1)
 else if mE x=false then (nN (vD x) (a,s),14) else (nN (V3 x) (a,s),0)
def kV (x:DvX):DvX × Int:=if x.on=false then (x,14) else if mE x=false then (vD x,14) else (iL (V3 x),0)
def wM (x:DvX)(k:Int):DvX:={ x with ar:=true,lf:=max k 0 }
def kW (x:DvX)(k:List Bool)(torn cut:Int)(i:Nat)(w:Int × Bs):DvX:=
 if k.getD i false=true then jV x (w.1,if (i:Int)=torn then w.2.take (min (max cut 0) 64).toNat++(M0 x w.1).drop (min (max cut 0) 64).toNat else w.2) else x
def qJ (k:List Bool)(torn cut:Int):Nat->DvX->List (Int × Bs)->DvX
 | _,x,[]=>x
 | i,x,w::ws=>qJ k torn cut (i+1) (kW x k torn cut i w) ws
def Y3 (x:DvX)(k:List Bool)(torn cut:Int):DvX:=if x.n=0 then x else { qJ k torn cut 0 x x.ws with ws:=[],on:=true,ar:=false }
end

section
variable {w:World}{es:List MpE}{a:Int}{K T V:TypeId}{ck:Nat}{i x:Operand}{args:List AV}{ts:Array TypeId}{xs:List Operand}{f:FuncId}
abbrev zB (e:MpE):MapEntry:=⟨.int .i64 e.1,sv e.2.1,e.2.2⟩
abbrev dV (es:List MpE)(ck:Nat):Obj:=.map (es.map zB).toArray ck
abbrev aK (g:Nat):AV:=.lit (.map (some g))
class TyMp (P:Program)(T:TypeId)(K V:outParam TypeId):Prop where
 out:P.underlying T=some (.map K V)
 key:P.underlying K=some (.int .i64)
 val:(P.info? V).map (·.zero)=some (some (sv []))
theorem Ub (a:Int):∀ (es:List MpE) (i:Nat),Instr.findNow (.int .i64) (.int .i64 a) (es.map zB) i=some (if cO es a<es.length then some (cO es a+i,sv ((iI es a).getD [])) else none)
 | [],i=>rfl
 | e::es,i=>by
  rw[List.map_cons];unfold Instr.findNow;have h1:Instr.sameNow (.int .i64) (.int .i64 a) (zB e).key=some (a == e.1):=by simp[Instr.sameNow]
  rw[h1,JW,zA];by_cases h:e.1=a
  ·subst h;simp
  have h2:(a == e.1)=false:=by simpa using λh'=>h h'.symm
  rw[h2,if_neg h,if_neg h];dsimp only;rw[Ub a es (i+1)];by_cases hl:cO es a<es.length
  ·rw[if_pos hl,if_pos (by simpa using hl)];congr 3
   omega
  rw[if_neg hl,if_neg (by simpa using hl)]
theorem Pi:∀ {es:List MpE} {a:Int},(iI es a).isSome=decide (cO es a<es.length)
 | [],a=>rfl
 | e::es,a=>by
  rw[zA,JW];by_cases h:e.1=a
  ·rw[if_pos h,if_pos h];simp
  rw[if_neg h,if_neg h,Pi];simp
section
variable {P:Program} {N:Nat} {ops:Array Oper} {Q:Exit->Act->World->Prop} {rest:List Oper} {s:Av.Base} {e:Av.Env} {m:List Av.Piece} {d:Nat} {ty:TypeId} {pos:String} {af:Array Edge}
theorem WY [t:TyMp P T K V]:(Instr.findKey K (.int .i64 a) (es.map zB)).run P w=.ok (if cO es a<es.length then some (cO es a,sv ((iI es a).getD [])) else none) w:=by
 unfold Instr.findKey;simp only[Sem.run_bind,run_underlying t.key,Result.andThen_ok,Ub,Nat.add_zero,Sem.run_pure]
theorem run_checkKey [t:TyMp P T K V]{b:Bool}:(Instr.checkKey b 10000 K (.int .i64 a)).run P w=.ok () w:=by
 unfold Instr.checkKey;simp only[Sem.run_bind,run_underlying t.key,Result.andThen_ok,Sem.run_pure]
theorem a5A [t:TyMp P T K V]:∃ i,P.info? V=some i/\i.zero=some (sv []):=by
 have:=t.val;cases h:P.info? V with
 | none=>rw[h] at this;cases this
 | some i=>
  rw[h] at this;exact⟨i,rfl,by simpa using this⟩
theorem b2H [t:TyMp P T K V]{g:Nat}(h:AL P N ops Q s rest ((d,.tup [str ((iI es a).getD []),d9 (iI es a).isSome])::e) m)(hx:ev e x=some (aK g):=by exact rfl)(hi:ev e i=some (int a):=by exact rfl)
  (hm:Has m (.obj g (dV es ck)):=by (repeat (first|exact Av.Has.here|apply Av.Has.there))) (hd:Nat.blt d N=true:=by exact rfl):AL P N ops Q s (⟨some d,.lookup T x i true,ty,pos,af,none⟩::rest) e m:=
 dR (λok w A hS hA=>by
  obtain⟨ho,_⟩:=hS.at_ _ hm.mem;obtain⟨iz,q1,q2⟩:=a5A (P:=P) (T:=T);have h1:=WY (P:=P) (T:=T) (a:=a) (es:=es) (w:=w);have h2:=run_checkKey (P:=P) (T:=T) (a:=a) (b:=(es.map zB).toArray.isEmpty) (w:=w);have h3:=Pi (es:=es) (a:=a);refine⟨.tuple #[sv ((iI es a).getD []),.bool (iI es a).isSome],?_,⟨_,rfl,_,_,rfl,RV0.of_lit rfl,_,_,rfl,RV0.of_lit rfl,rfl⟩⟩;have hg:(getObj g).run P w=.ok (dV es ck) w:=by simp[getObj,Sem.run,ho]
  simp only[execOp,hA.lit hx,hA.lit hi,Instr.lookup,Sem.run_bind,run_underlying t.out,Result.andThen_ok,hg,h2,Sem.run_pure];by_cases hl:cO es a<es.length
  ·rw[if_pos hl] at h1;rw[dT hl] at h3;rw[h3];simp[h1]
  rw[if_neg hl] at h1;rw[dZ hl] at h3;have h4:iI es a=none:=by simpa using h3
  rw[h4];simp[h1,zeroValue,typeInfo,q1,q2]) hd h
theorem Pz {α β:Type}(f:α->β):∀ (l:List α) (i:Nat),(l.eraseIdx i).map f=(l.map f).eraseIdx i
 | [],_=>rfl
 | _::_,0=>rfl
 | a::l,i+1=>by simp[Pz f l i]
theorem QS {g:Nat}{o o':Obj}(ho:w.heap[g]?=some o)(hn:Obj.notCells o=true):(setObj g o').run P w=.ok () { w with heap:=w.heap.setIfInBounds g o' }:=by
 cases o <;> first|(simp[setObj,Sem.run,ho];done)|cases hn
theorem b2B [t:TyMp P T K V]{y:Operand}{g:Nat}{b:Bs}{pre post:List Av.Piece}(h:AL P N ops Q s rest e (pre++.obj g (dV (fU es ck a b) (DR es ck a))::post))(hm:m=pre++.obj g (dV es ck)::post)(hx:ev e x=some (aK g):=by exact rfl)(hi:ev e i=some (int a):=by exact rfl)(hy:ev e y=some (str b):=by exact rfl) :
  AL P N ops Q s (⟨none,.mapUpdate T x i y,ty,pos,af,none⟩::rest) e m:=
 LJ (λok w A hS hA=>by
  subst hm;obtain⟨ho,hno⟩:=hS.at_ (.obj g (dV es ck)) sm;obtain⟨g1,g2⟩:=hS.setObj (o':=dV (fU es ck a b) (DR es ck a)) rfl;have h1:=WY (P:=P) (T:=T) (a:=a) (es:=es) (w:=w);have h2:=run_checkKey (P:=P) (T:=T) (a:=a) (b:=false) (w:=w);have h3:=QS (P:=P) (o':=dV (fU es ck a b) (DR es ck a)) ho hno;refine⟨_,ok,?_,g1,g2⟩;have hg:(getObj g).run P w=.ok (dV es ck) w:=by simp[getObj,Sem.run,ho]
  simp only[execOp,hA.lit hx,hA.lit hi,hA.lit hy,Instr.mapUpdate,Sem.run_bind,run_underlying t.out,Result.andThen_ok,hg,h2,h1];by_cases hl:cO es a<es.length
  ·rw[if_pos hl];have h5:(es[cO es a]'hl).1=a:=of_decide_eq_true (List.findIdx_getElem (w:=hl));have h6:(es.map zB).modify (cO es a) (λe=>{ key:=.int .i64 a,val:=sv b,born:=e.born })=(fU es ck a b).map zB:=by
    apply List.ext_getElem
    ·simp[fU,hl]
    intro i hi1 hi2;simp[fU,hl,List.getElem_modify];split <;> rfl
   have h8:DR es ck a=ck:=if_pos hl;rw[h8] at h3 ⊢;simp[hl,h5,Instr.keyThatStays,Instr.sameBits,h6];rw[h3];rfl
  rw[if_neg hl];have h7:Obj.map ((es.map zB).toArray.push { key:=.int .i64 a,val:=sv b,born:=ck }) (ck+1)=dV (fU es ck a b) (DR es ck a):=by
   unfold DR fU;rw[if_neg hl,if_neg hl];simp[dV]
  simp only[h7,h3,Result.andThen_ok,Sem.run_pure]) h
theorem b2C {S:TypeId}[t:TyMp P T K V]{g:Nat}{pre post:List Av.Piece}(h:AL P N ops Q s rest e (pre++.obj g (dV (oQ es a) ck)::post))(hm:m=pre++.obj g (dV es ck)::post)(hx:ev e x=some (aK g):=by exact rfl)(hi:ev e i=some (int a):=by exact rfl) :
  AL P N ops Q s (⟨none,.call ⟨.builtin .delete,#[x,i],#[T,S]⟩,ty,pos,af,none⟩::rest) e m:=
 a0s (λok w A hS hA=>by
  subst hm;obtain⟨ho,hno⟩:=hS.at_ (.obj g (dV es ck)) sm;obtain⟨g1,g2⟩:=hS.setObj (o':=dV (oQ es a) ck) rfl;have h1:=WY (P:=P) (T:=T) (a:=a) (es:=es) (w:=w);have h2:=run_checkKey (P:=P) (T:=T) (a:=a) (b:=(es.map zB).toArray.isEmpty) (w:=w);have h3:=QS (P:=P) (o':=dV (oQ es a) ck) ho hno;refine⟨.tuple #[],_,ok,?_,g1,g2⟩;have hg:(getObj g).run P w=.ok (dV es ck) w:=by simp[getObj,Sem.run,ho]
  have hx':=hA.lit hx;have hi':=hA.lit hi;simp only[execOp,resolve,invoke,builtin,List.map_toArray,List.map_cons,List.map_nil,hx',hi',Builtin.delete_,List.getElem?_toArray,List.getElem?_cons_zero,List.getElem?_cons_succ,Sem.run_bind,run_underlying t.out,Result.andThen_ok,hg,h2,h1,Sem.run_pure];by_cases hl:cO es a<es.length
  ·rw[if_pos hl];have h7:Obj.map ((es.map zB).toArray.eraseIdxIfInBounds (cO es a)) ck=dV (oQ es a) ck:=by
    simp[dV,oQ,Array.eraseIdxIfInBounds,hl,Pz]
   simp only[h7,h3,Sem.run_bind,Result.andThen_ok,Sem.run_pure]
  rw[if_neg hl];have h7:oQ es a=es:=List.eraseIdx_of_length_le om;rw[h7] at h3 ⊢;simp only[Sem.run_bind,h3,Result.andThen_ok,Sem.run_pure]) h
theorem b2E [TyMp P T K V](h:∀ g,AL P N ops Q s rest ((d,aK g)::e) (.obj g (dV [] 0)::m))(hd:Nat.blt d N=true:=by exact rfl):AL P N ops Q s (⟨some d,.makeMap T none,ty,pos,af,none⟩::rest) e m:=
 mK (λok w A hS hA=>by
  obtain⟨ok',g1,g2⟩:=hS.newObj (o:=dV [] 0) rfl;exact⟨_,.map (some w.heap.size),w.alloc (dV [] 0),ok',_,by simp[execOp,Instr.makeMap,newObj,Sem.run];rfl,RVl rfl,g1,g2,h w.heap.size⟩) hd
theorem Yx {ok:Ok}{w:World}:∀ l:Bs,RCs ok w (l.map λc=>AV.lit (y8 c)) (l.map y8)
 | []=>by rw[List.map_nil,RCs];rfl
 | c::l=>by
  rw[List.map_cons,RCs];exact⟨[y8 c],l.map y8,rfl,by rw[RC];exact⟨rfl,rfl⟩,Yx l⟩
theorem a0u {E:TypeId}[t:TyE P T E 1 1][tz:TyO P E (.lit (y8 0))]{y:Operand}{q:Int}(h:AL P N ops Q s rest ((d,.sl 1 ((List.replicate q.toNat (0:UInt8)).map λc=>.lit (y8 c)) none)::e) m)
  (hx:ev e x=some (int q):=by exact rfl) (hy:ev e y=some (int q):=by exact rfl) (hq:0<=q/\q<=1048576:=by first|omega|decide) (hd:Nat.blt d N=true:=by exact rfl):AL P N ops Q s (⟨some d,.makeSlice T x y,ty,pos,af,none⟩::rest) e m:=by
 refine zQ (v:=.sl 1 ((List.replicate q.toNat (0:UInt8)).map λc=>.lit (y8 c)) none) (λok w A hS hA=>?_) hd;obtain⟨i,z,q1,q2,hzk,hik,hib⟩:=t.zero;have e1:=tz.out;rw[q1,show eG 8 (.lit (y8 0))=some [y8 0] from rfl] at e1;have e2:z.cells.toList=[y8 0]/\xZ z=false:=by simpa[q2,AV.isAgg] using e1
 have hz1:z=y8 0:=by
  have:=HV e2.2;rw[this] at e2;simpa using e2.1
 subst hz1;have hn:((q.toNat:Nat):Int)=q:=by omega
 have hr:=run_make_row (P:=P) T E i (y8 0) t.l.out q1 q2 hik rfl .i64 .i64 q.toNat (by rw[hib];omega) om w;rw[hn] at hr;have hE:=Ext.alloc w (.cells (madeCells #[y8 0] q.toNat) E);have hblk:(w.alloc (.cells (madeCells #[y8 0] q.toNat) E)).heap[w.heap.size]?=some (.cells (madeCells #[y8 0] q.toNat) E (0,0)):=heap_alloc_new w _;have hcl:(madeCells #[y8 0] q.toNat).toList=(List.replicate q.toNat (0:UInt8)).map y8:=by
  apply List.ext_getElem
  ·simp[madeCells]
  intro j h1 h2;simp[madeCells,Nat.mod_one]
 refine⟨.slice (some ⟨w.heap.size,0,none⟩) q.toNat q.toNat,_,ok,m,by simp[execOp,hA.lit hx,hA.lit hy,hr],?_,hS.ext hE,Ext.astp hE ok,h⟩;refine RV.sl sm sm (Nat.le_refl _) (by simp only[maxLen];omega) (λhp=>⟨w.heap.size,0,(List.replicate q.toNat (0:UInt8)).map y8,rfl,sm,λj v hj=>?_,Yx _⟩) (λx hx=>by
  obtain⟨c,_,rfl⟩:=List.mem_map.1 hx;rfl)
 rw[Nat.zero_add,cell_of_row _ _ _ _ _ _ hblk];refine⟨?_,hS.fresh _ _ (Nat.le_refl _)⟩;rw[<- hcl] at hj;simpa using hj
theorem aI [hf:FnB P f](pre m1 post:List Av.Piece){K:AV->List Av.Piece->Prop}{gl:List (Nat × AV)}(hc:Av.Spec P gl f args m1 K)(h:∀ v m1',K v m1'->AL P N ops Q s rest ((d,v)::e) (pre++(m1'++post)))
  (hm:m=pre++(m1++post):=by exact rfl) (hg:s.gl=gl:=by assumption) (hx:evs e xs=some args:=by exact rfl) (hn:args.all U8=true:=by exact rfl) (hd:Nat.blt d N=true:=by exact rfl):AL P N ops Q s (⟨some d,.call ⟨.value (.func f),xs.toArray,ts⟩,ty,pos,af,none⟩::rest) e m:=by
 subst hm hg;refine J6 m1 (pre++post) hc (λv m1' hk=>?_) (List.perm_append_comm_assoc _ _ _) hx hn hd;exact lC (λok w hS=>hS.perm (List.perm_append_comm_assoc _ _ _)) (h v m1' hk)
theorem J5 [hf:FnB P f](pre m1:List Av.Piece){K:AV->List Av.Piece->Prop}{gl:List (Nat × AV)}(hc:Av.Spec P gl f args m1 K)(h:∀ v m1',K v m1'->AL P N ops Q s rest ((d,v)::e) (pre++m1'))
  (hm:m=pre++m1:=by exact rfl) (hg:s.gl=gl:=by assumption) (hx:evs e xs=some args:=by exact rfl) (hn:args.all U8=true:=by exact rfl) (hd:Nat.blt d N=true:=by exact rfl):AL P N ops Q s (⟨some d,.call ⟨.value (.func f),xs.toArray,ts⟩,ty,pos,af,none⟩::rest) e m:=by
 subst hm hg;refine J6 m1 pre hc (λv m1' hk=>?_) List.perm_append_comm hx hn hd;exact lC (λok w hS=>hS.perm List.perm_append_comm) (h v m1' hk)
theorem ER [hf:FnB P f]{cs:List Value}{K:AV->List Av.Piece->Prop}{gl:List (Nat × AV)}(hc:Av.Spec P gl f (args++cs.map .lit) m K)(h:∀ v m1',K v m1'->AL P N ops Q s rest ((d,v)::e) m1')
  (hg:s.gl=gl:=by assumption) (h0:ev e x=some (F3 f cs):=by exact rfl) (hx:evs e xs=some args:=by exact rfl) (hn:args.all U8=true:=by exact rfl) (hcs:∀ v∈cs,v.oneCell'=true:=by simp[Value.oneCell']) (hd:Nat.blt d N=true:=by exact rfl) :
  AL P N ops Q s (⟨some d,.call ⟨.value x,xs.toArray,ts⟩,ty,pos,af,none⟩::rest) e m:=by
 subst hg;refine gX m [] hc (λv m1' hk=>?_) sm h0 hx hn hcs hd;rw[List.append_nil];exact h v m1' hk
theorem T9 [hf:FnB P f]{K:AV->List Av.Piece->Prop}{gl:List (Nat × AV)}(hc:Av.Spec P gl f args m K)(h:∀ v m1',K v m1'->AL P N ops Q s rest ((d,v)::e) m1')
  (hg:s.gl=gl:=by assumption) (hx:evs e xs=some args:=by exact rfl) (hn:args.all U8=true:=by exact rfl) (hd:Nat.blt d N=true:=by exact rfl):AL P N ops Q s (⟨some d,.call ⟨.value (.func f),xs.toArray,ts⟩,ty,pos,af,none⟩::rest) e m:=by
 subst hg;refine J6 m [] hc (λv m1' hk=>?_) sm hx hn hd;rw[List.append_nil];exact h v m1' hk
theorem a0o {l:List Oper}(A B:List Av.Piece)(h:AL P N ops Q s l e (B++A))(hm:m=A++B:=by exact rfl):AL P N ops Q s l e m:=by
 subst hm;exact lC (λok w hS=>hS.perm List.perm_append_comm) h
theorem bG {x:Exit}(m' l:List Av.Piece)(h:AE N x Q s e m')(hp:m'.Perm l)(hm:l.Sublist m):AE N x Q s e m:=zR (λ_ _ hS=>(hS.less hm).perm hp) h
theorem qQ {l':List Oper}(m' l:List Av.Piece)(h:AL P N ops Q s l' e m')(hp:m'.Perm l)(hm:l.Sublist m):AL P N ops Q s l' e m:=lC (λ_ _ hS=>(hS.less hm).perm hp) h
theorem Fq {c:Code}(m' l:List Av.Piece)(h:AC P N c Q s e m')(hp:m'.Perm l)(hm:l.Sublist m):AC P N c Q s e m:=eO (λ_ _ hS=>(hS.less hm).perm hp) h
end
end
end Go.Proofs.Z

namespace Av
open Go Go.RowKit Tw
structure Wd where
 n:Nat
 lt:n<115792089237316195423570985008687907853269984665640564039457584007913129639936
deriving DecidableEq
theorem Wd.ext' {a b:Wd}(h:a.n=b.n):a=b:=by cases a;cases b;cases h;rfl
def wZ:Wd:=⟨0,dc⟩
def H9 (n:Nat):Wd:=if h:n<115792089237316195423570985008687907853269984665640564039457584007913129639936 then ⟨n,h⟩ else wZ
def lK (n:Nat):Bool:=decide (n<115792089237316195423570985008687907853269984665640564039457584007913129639936)
theorem mO {n:Nat}(h:n<115792089237316195423570985008687907853269984665640564039457584007913129639936):(H9 n).n=n:=by rw[H9,dif_pos h]
theorem a1q (a:Wd):H9 a.n=a:=by rw[H9,dif_pos a.lt]
theorem Gf {n:Nat}(h:¬ n<115792089237316195423570985008687907853269984665640564039457584007913129639936):H9 n=wZ:=by rw[H9,dif_neg h]
def lm (n i:Nat):Nat:=n / 18446744073709551616 ^ i%18446744073709551616
theorem oW (n i:Nat):lm n i<18446744073709551616:=Nat.mod_lt _ dc
theorem zD (n:Nat):lm n 0=n%18446744073709551616:=by unfold lm;rw[Nat.pow_zero,Nat.div_one]
theorem DY (n:Nat):lm n 1=n / 18446744073709551616%18446744073709551616:=by unfold lm;rw[Nat.pow_one]
theorem DX (n:Nat):lm n 2=n / 340282366920938463463374607431768211456%18446744073709551616:=rfl
theorem DW (n:Nat):lm n 3=n / 6277101735386680763835789423207666416102355444464034512896%18446744073709551616:=rfl
theorem DV (i:Nat):lm 0 i=0:=by unfold lm;rw[Nat.zero_div]
theorem Oh {n m:Nat}(hn:n<115792089237316195423570985008687907853269984665640564039457584007913129639936)(hm:m<115792089237316195423570985008687907853269984665640564039457584007913129639936)(h0:lm n 0=lm m 0)(h1:lm n 1=lm m 1)(h2:lm n 2=lm m 2)(h3:lm n 3=lm m 3):n=m:=by
 rw[zD,zD] at h0;rw[DY,DY] at h1;rw[DX,DX] at h2;rw[DW,DW] at h3;omega
abbrev u6 (n:Nat):AV:=.lit (.int .u64 (n:Int))
abbrev aD (n:Nat):AV:=.agg 4 [u6 (lm n 0),u6 (lm n 1),u6 (lm n 2),u6 (lm n 3)]
abbrev G6 (a:Wd):AV:=aD a.n
def wj (a b c d:Nat):Nat:=a+18446744073709551616*b+340282366920938463463374607431768211456*c+6277101735386680763835789423207666416102355444464034512896*d
theorem a1j {a b c d:Nat}(ha:a<18446744073709551616)(hb:b<18446744073709551616)(hc:c<18446744073709551616)(hd:d<18446744073709551616) :
  wj a b c d<115792089237316195423570985008687907853269984665640564039457584007913129639936/\lm (wj a b c d) 0=a/\lm (wj a b c d) 1=b/\lm (wj a b c d) 2=c/\lm (wj a b c d) 3=d:=by
 rw[zD,DY,DX,DW];unfold wj;omega
theorem TE (a:Wd):wj (lm a.n 0) (lm a.n 1) (lm a.n 2) (lm a.n 3)=a.n:=by
 have:=a.lt;rw[zD,DY,DX,DW];unfold wj;omega
theorem b3D (a b:Wd):∃ c0 c1 c2 c3:Nat,c0=(lm a.n 0+lm b.n 0+0) / 18446744073709551616/\c1=(lm a.n 1+lm b.n 1+c0) / 18446744073709551616/\c2=(lm a.n 2+lm b.n 2+c1) / 18446744073709551616/\c3=(lm a.n 3+lm b.n 3+c2) / 18446744073709551616/\c0<=1/\c1<=1/\c2<=1/\c3<=1 /\
  (c3=0↔a.n+b.n<115792089237316195423570985008687907853269984665640564039457584007913129639936) /\
  lm (a.n+b.n) 0=(lm a.n 0+lm b.n 0+0)%18446744073709551616/\lm (a.n+b.n) 1=(lm a.n 1+lm b.n 1+c0)%18446744073709551616/\lm (a.n+b.n) 2=(lm a.n 2+lm b.n 2+c1)%18446744073709551616/\lm (a.n+b.n) 3=(lm a.n 3+lm b.n 3+c2)%18446744073709551616:=by
 refine⟨_,_,_,_,rfl,rfl,rfl,rfl,?_⟩;have ha:=TE a;have hb:=TE b;have h0:=oW a.n 0;have h1:=oW a.n 1;have h2:=oW a.n 2;have h3:=oW a.n 3;have g0:=oW b.n 0;have g1:=oW b.n 1;have g2:=oW b.n 2;have g3:=oW b.n 3;rw[zD (a.n+b.n),DY (a.n+b.n),DX (a.n+b.n),DW (a.n+b.n)];generalize lm a.n 0=x0 at *;generalize lm a.n 1=x1 at *;generalize lm a.n 2=x2 at *;generalize lm a.n 3=x3 at *;generalize lm b.n 0=y0 at *;generalize lm b.n 1=y1 at *;generalize lm b.n 2=y2 at *;generalize lm b.n 3=y3 at *;unfold wj at ha hb;generalize hc0:(x0+y0+0) / 18446744073709551616=c0;generalize hc1:(x1+y1+c0) / 18446744073709551616=c1;generalize hc2:(x2+y2+c1) / 18446744073709551616=c2;generalize hc3:(x3+y3+c2) / 18446744073709551616=c3;have b0:c0<=1:=by omega
 have b1:c1<=1:=om
 have b2:c2<=1:=om
 have b3:c3<=1:=om
 rw[<- ha,<- hb];refine⟨b0,b1,b2,b3,om,?_,?_,?_,?_⟩ <;> omega
def vH (x y b:Nat):Nat:=if x<y+b then 1 else 0
theorem a2m (a b:Wd):∃ c0 c1 c2 c3:Nat,c0=vH (lm a.n 0) (lm b.n 0) 0/\c1=vH (lm a.n 1) (lm b.n 1) c0/\c2=vH (lm a.n 2) (lm b.n 2) c1/\c3=vH (lm a.n 3) (lm b.n 3) c2/\c0<=1/\c1<=1/\c2<=1/\c3<=1 /\
  (c3=0↔b.n<=a.n)/\(b.n<=a.n ->
  lm (a.n-b.n) 0=(lm a.n 0+18446744073709551616-lm b.n 0-0)%18446744073709551616/\lm (a.n-b.n) 1=(lm a.n 1+18446744073709551616-lm b.n 1-c0)%18446744073709551616/\lm (a.n-b.n) 2=(lm a.n 2+18446744073709551616-lm b.n 2-c1)%18446744073709551616/\lm (a.n-b.n) 3=(lm a.n 3+18446744073709551616-lm b.n 3-c2)%18446744073709551616):=by
 refine⟨_,_,_,_,rfl,rfl,rfl,rfl,?_⟩;have ha:=TE a;have hb:=TE b;have h0:=oW a.n 0;have h1:=oW a.n 1;have h2:=oW a.n 2;have h3:=oW a.n 3;have g0:=oW b.n 0;have g1:=oW b.n 1;have g2:=oW b.n 2;have g3:=oW b.n 3;rw[zD (a.n-b.n),DY (a.n-b.n),DX (a.n-b.n),DW (a.n-b.n)];generalize lm a.n 0=x0 at *;generalize lm a.n 1=x1 at *;generalize lm a.n 2=x2 at *;generalize lm a.n 3=x3 at *;generalize lm b.n 0=y0 at *;generalize lm b.n 1=y1 at *;generalize lm b.n 2=y2 at *;generalize lm b.n 3=y3 at *;unfold wj at ha hb;have key:∀ x y b c:Nat,x<18446744073709551616->y<18446744073709551616->b<=1->vH x y b=c->c<=1/\(x+18446744073709551616-y-b)%18446744073709551616+y+b=x+18446744073709551616*c:=by
  intro x y b c hx hy hb hc;unfold vH at hc;split at hc <;> omega
 generalize hc0:vH x0 y0 0=c0;generalize hc1:vH x1 y1 c0=c1;generalize hc2:vH x2 y2 c1=c2;generalize hc3:vH x3 y3 c2=c3;obtain⟨b0,k0⟩:=key x0 y0 0 c0 h0 g0 om hc0;obtain⟨b1,k1⟩:=key x1 y1 c0 c1 h1 g1 b0 hc1;obtain⟨b2,k2⟩:=key x2 y2 c1 c2 h2 g2 b1 hc2;obtain⟨b3,k3⟩:=key x3 y3 c2 c3 h3 g3 b2 hc3;have m0:=Nat.mod_lt (x0+18446744073709551616-y0-0) (show 0<18446744073709551616 by decide);have m1:=Nat.mod_lt (x1+18446744073709551616-y1-c0) (show 0<18446744073709551616 by decide);have m2:=Nat.mod_lt (x2+18446744073709551616-y2-c1) (show 0<18446744073709551616 by decide);have m3:=Nat.mod_lt (x3+18446744073709551616-y3-c2) (show 0<18446744073709551616 by decide);generalize (x0+18446744073709551616-y0-0)%18446744073709551616=d0 at *;generalize (x1+18446744073709551616-y1-c0)%18446744073709551616=d1 at *;generalize (x2+18446744073709551616-y2-c1)%18446744073709551616=d2 at *;generalize (x3+18446744073709551616-y3-c2)%18446744073709551616=d3 at *;rw[<- ha,<- hb];clear hc0 hc1 hc2 hc3 key ha hb;refine⟨b0,b1,b2,b3,om,λhle=>?_⟩;have hd:(x0+18446744073709551616*x1+340282366920938463463374607431768211456*x2+6277101735386680763835789423207666416102355444464034512896*x3)-(y0+18446744073709551616*y1+340282366920938463463374607431768211456*y2+6277101735386680763835789423207666416102355444464034512896*y3)=d0+18446744073709551616*d1+340282366920938463463374607431768211456*d2+6277101735386680763835789423207666416102355444464034512896*d3:=by omega
 rw[hd];clear hd hle k0 k1 k2 k3;refine⟨?_,?_,?_,?_⟩ <;> omega

def Q9:Bs->Nat
 | []=>0
 | c::l=>c.toNat+256*Q9 l
def dg (n i:Nat):Nat:=n / 256 ^ i%256
theorem a9Q (n i:Nat):dg n i<256:=Nat.mod_lt _ dc
def qI (n k:Nat):Bs:=(List.range k).map λi=>UInt8.ofNat (dg n i)
theorem KT (n k:Nat):(qI n k).length=k:=by simp[qI]
theorem a9P {n k i:Nat}(h:i<k):(qI n k)[i]?=some (UInt8.ofNat (dg n i)):=by simp[qI,h]
theorem a9O (n k:Nat):qI n (k+1)=qI n k++[UInt8.ofNat (dg n k)]:=by simp[qI,List.range_succ]
theorem a4F (i:Nat):0<256 ^ i:=Nat.pow_pos dc
theorem KA:∀ l:Bs,Q9 l<256 ^ l.length
 | []=>by simp[Q9]
 | c::l=>by
  have:=KA l;have:=c.toNat_lt;rw[Q9,List.length_cons,Nat.pow_succ];omega
theorem OG:∀ a b:Bs,Q9 (a++b)=Q9 a+256 ^ a.length*Q9 b
 | [],b=>by simp[Q9]
 | c::a,b=>by
  rw[List.cons_append,Q9,Q9,OG a b,List.length_cons,Nat.pow_succ,Nat.mul_add,Nat.mul_comm (256 ^ a.length) 256,Nat.mul_assoc];omega
theorem Qe {l:Bs}{i:Nat}{c:UInt8}(h:l[i]?=some c):Q9 (l.take (i+1))=Q9 (l.take i)+256 ^ i*c.toNat:=by
 have hi:i<l.length:=by
  rcases Nat.lt_or_ge i l.length with h1|h1
  ·exact h1
  rw[List.getElem?_eq_none h1] at h;cases h
 rw[List.getElem?_eq_getElem hi] at h;injection h with h
 rw[List.take_succ_eq_append_getElem hi,OG,List.length_take,Nat.min_eq_left om,h];simp[Q9]
theorem a5p (n i:Nat):(UInt8.ofNat (dg n i)).toNat=dg n i:=by
 have:=a9Q n i;rw[UInt8.toNat_ofNat'];exact Nat.mod_eq_of_lt this
theorem a5J (n k:Nat):n%256 ^ (k+1)=n%256 ^ k+256 ^ k*dg n k:=by
 rw[Nat.pow_succ,Nat.mod_mul];rfl
theorem Ab (n:Nat):∀ k,Q9 (qI n k)=n%256 ^ k
 | 0=>by simp[qI,Q9,Nat.mod_one]
 | k+1=>by
  rw[a9O,OG,Ab n k,KT,a5J,Q9,Q9,a5p,Nat.mul_zero,Nat.add_zero]
def bF (n:Nat):Bs:=(qI n 32).reverse
def mH (s:Bs):Nat:=Q9 s.reverse
theorem yG (n:Nat):(bF n).length=32:=by simp[bF,KT]
theorem Ea (a:Wd):mH (bF a.n)=a.n:=by
 rw[mH,bF,List.reverse_reverse,Ab];exact Nat.mod_eq_of_lt a.lt
theorem b1p {s:Bs}(h:s.length=32):mH s<115792089237316195423570985008687907853269984665640564039457584007913129639936:=by
 have:=KA s.reverse;rw[List.length_reverse,h] at this;exact this
theorem B_pow (i:Nat):(18446744073709551616:Nat) ^ i=256 ^ (8*i):=by rw[Nat.pow_mul]
theorem a6m (n i:Nat):lm n (i / 8) / 256 ^ (i%8)%256=dg n i:=by
 unfold lm dg;have hr:i%8<8:=Nat.mod_lt _ dc;have e1:(18446744073709551616:Nat)=256 ^ (i%8)*(256*256 ^ (7-i%8)):=by
  rw[<- Nat.pow_succ',<- Nat.pow_add,show i%8+(7-i%8+1)=8 by omega]
 conv=>lhs;rw[e1]
 rw[Nat.mod_mul_right_div_self,Nat.mod_mul_right_mod,<- e1,Nat.div_div_eq_div_mul,B_pow,<- Nat.pow_add,show 8*(i / 8)+i%8=i by omega]
theorem a6l {m d i j:Nat}(hm:m<256 ^ i)(hd:d<256):lm (m+256 ^ i*d) j=if j=i / 8 then lm m j+256 ^ (i%8)*d else lm m j:=by
 have hr:i%8<8:=Nat.mod_lt _ dc;have hi:256 ^ i=18446744073709551616 ^ (i / 8)*256 ^ (i%8):=by rw[B_pow,<- Nat.pow_add,show 8*(i / 8)+i%8=i by omega]
 have hB:256 ^ (i%8)*256<=18446744073709551616:=by
  rw[<- Nat.pow_succ,show (18446744073709551616:Nat)=256 ^ 8 from rfl];exact Nat.pow_le_pow_right dc om
 have hX:256 ^ (i%8)*d+256 ^ (i%8)<=256 ^ (i%8)*256:=by
  rw[show 256 ^ (i%8)*d+256 ^ (i%8)=256 ^ (i%8)*(d+1) by rw[Nat.mul_add,Nat.mul_one]];exact Nat.mul_le_mul_left _ om
 generalize hq:i / 8=q at *;generalize hR:256 ^ (i%8)=R at *;rw[hi] at hm ⊢;unfold lm;have hPq:0<18446744073709551616 ^ q:=Nat.pow_pos dc;rcases Nat.lt_trichotomy j q with h|h|h
 ·rw[if_neg om,show q=j+(q-j-1+1) by omega,Nat.pow_add,Nat.pow_succ,Nat.mul_assoc,Nat.mul_assoc,Nat.add_mul_div_left _ _ (Nat.pow_pos dc)];rw[show 18446744073709551616 ^ (q-j-1)*18446744073709551616*(R*d)=18446744073709551616*(18446744073709551616 ^ (q-j-1)*(R*d)) by rw[Nat.mul_comm (18446744073709551616 ^ (q-j-1)) 18446744073709551616,Nat.mul_assoc],Nat.add_mul_mod_self_left]
 ·subst h;have hmq:m / 18446744073709551616 ^ j<R:=by
   rw[Nat.div_lt_iff_lt_mul hPq,Nat.mul_comm];exact hm
  rw[if_pos rfl,Nat.mul_assoc,Nat.add_mul_div_left _ _ hPq,Nat.mod_eq_of_lt om,Nat.mod_eq_of_lt om]
 have hlt:m+18446744073709551616 ^ q*R*d<18446744073709551616 ^ j:=by
  have e1:18446744073709551616 ^ q*R*d+18446744073709551616 ^ q*R<=18446744073709551616 ^ q*18446744073709551616:=by
   rw[Nat.mul_assoc,<- Nat.mul_add];exact Nat.mul_le_mul_left _ om
  have e2:18446744073709551616 ^ q*18446744073709551616<=18446744073709551616 ^ j:=by
   rw[<- Nat.pow_succ];exact Nat.pow_le_pow_right dc om
  omega
 rw[if_neg om,Nat.div_eq_of_lt hlt,Nat.div_eq_of_lt om]
theorem a6k {m i:Nat}(hm:m<256 ^ i):lm m (i / 8)<256 ^ (i%8):=by
 have hi:256 ^ i=18446744073709551616 ^ (i / 8)*256 ^ (i%8):=by rw[B_pow,<- Nat.pow_add,show 8*(i / 8)+i%8=i by omega]
 unfold lm;refine Nat.lt_of_le_of_lt (Nat.mod_le _ _) ?_;rw[Nat.div_lt_iff_lt_mul (Nat.pow_pos dc),Nat.mul_comm,<- hi];exact hm
theorem a5h {x d r:Nat}(hx:x<256 ^ r):x ||| (256 ^ r*d)=x+256 ^ r*d:=by
 have e:(256:Nat) ^ r=2 ^ (8*r):=by rw[Nat.pow_mul]
 rw[e] at hx ⊢;rw[Nat.or_comm,<- Nat.two_pow_add_eq_or_of_lt hx d,Nat.add_comm]
end Av

namespace Go.Proofs.Z
open Go Go.RowKit Tw Av
def fK (n:Nat):Bs:=(qI n 8).reverse
def DL (s:Bs):Nat:=Q9 s.reverse
theorem UU (n:Nat):(fK n).length=8:=by simp[fK,KT]
theorem NY {n:Nat}(h:n<18446744073709551616):DL (fK n)=n:=by
 rw[DL,fK,List.reverse_reverse,Ab];exact Nat.mod_eq_of_lt h
structure MkX where
 e:Int
 b:Int
 c:Int
deriving DecidableEq
def oV:MkX:=⟨0,0,0⟩
def PV:Bs:=List.replicate 32 0
def V7 (m:MkX):Bs:=fK m.e.toNat++fK m.b.toNat++fK m.c.toNat++PV++fK m.e.toNat
def AR (s:Bs):MkX:=⟨DL (s.take 8),DL ((s.drop 8).take 8),DL ((s.drop 16).take 8)⟩
def YV (m:MkX):Bool:=decide (m.e<=1099511627776/\m.b<=1099511627776/\m.c<=1099511627776)
def bI (s:Bs):Option MkX:=if s.length=64/\YV (AR s)=true/\V7 (AR s)=s then some (AR s) else none
def DK (a b:Bs):MkX:=if ((bI a).getD oV).e<((bI b).getD oV).e then (bI b).getD oV else (bI a).getD oV
structure MkB (m:MkX):Prop where
 e:0<=m.e/\m.e<=1099511627776
 b:0<=m.b/\m.b<=1099511627776
 c:0<=m.c/\m.c<=1099511627776
theorem SI (m:MkX):(V7 m).length=64:=by
 unfold V7 PV;simp[UU]
theorem NQ (m:MkX):(V7 m).take 8=fK m.e.toNat/\((V7 m).drop 8).take 8=fK m.b.toNat/\((V7 m).drop 16).take 8=fK m.c.toNat/\(V7 m).drop 56=fK m.e.toNat:=by
 have h1:=UU m.e.toNat;have h2:=UU m.b.toNat;have h3:=UU m.c.toNat;have hz:PV.length=32:=by simp[PV]
 unfold V7;generalize fK m.e.toNat=A at *;generalize fK m.b.toNat=B at *;generalize fK m.c.toNat=C at *;refine⟨?_,?_,?_,?_⟩
 ·rw[laa,laa,laa,List.take_left' h1]
 ·rw[laa,laa,laa,List.drop_left' h1,List.take_left' h2]
 ·rw[laa,laa,List.drop_left' (by rw[lla];omega),List.take_left' h3]
 rw[List.drop_left' (by simp only[List.length_append];omega)]
theorem a3W {m:MkX}(h:MkB m):AR (V7 m)=m:=by
 obtain⟨a,b,c,_⟩:=NQ m;unfold AR;rw[a,b,c,NY (by have:=h.e;omega),NY (by have:=h.b;omega),NY (by have:=h.c;omega)];have h1:((m.e.toNat:Nat):Int)=m.e:=by have:=h.e;omega
 have h2:((m.b.toNat:Nat):Int)=m.b:=by have:=h.b;omega
 have h3:((m.c.toNat:Nat):Int)=m.c:=by have:=h.c;omega
 rw[h1,h2,h3]
theorem a1F {m:MkX}(h:MkB m):bI (V7 m)=some m:=by
 unfold bI;rw[a3W h,if_pos ⟨SI m,dT ⟨h.e.2,h.b.2,h.c.2⟩,rfl⟩]
theorem a1H {s:Bs}{m:MkX}(h:bI s=some m):V7 m=s:=by
 unfold bI at h;split at h
 ·rename_i hh;injection h with h
  rw[<- h];exact hh.2.2
 cases h
end Go.Proofs.Z
