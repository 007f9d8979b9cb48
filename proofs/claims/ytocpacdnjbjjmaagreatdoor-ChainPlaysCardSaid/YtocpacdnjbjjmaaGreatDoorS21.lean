/- . -/
import Derived.Deep.OwnRows
import Derived.Test.YtocpacdnjbjjmaaGreatDoorS20
namespace Av
open Go Go.RowKit Tw
def iA (l:Bs)(i:Nat):Nat × Nat:=Utf8.decode ⟨l.toArray⟩ i
theorem a3F (l:Bs)(i:Nat):(⟨l.toArray⟩:ByteArray).get! i=l.getD i 0:=by
 show (l.toArray)[i]! = _;simp[List.getD];rfl
theorem Ah {l:Bs}{i:Nat}(hi:i<l.length):1<=(iA l i).2/\i+(iA l i).2<=l.length /\
  (((l.getD i 0).toNat<128/\(iA l i).1=(l.getD i 0).toNat/\(iA l i).2=1)\/(128<=(l.getD i 0).toNat/\128<=(iA l i).1/\∀ k,0<k->k<(iA l i).2->128<=(l.getD (i+k) 0).toNat)):=by
 unfold iA Utf8.decode;simp only[a3F,jS,Nat.add_zero,Utf8.runeError];have hb:=UInt8.toNat_lt (l.getD i 0);generalize (l.getD i 0).toNat=b0 at *;have key:∀ k,(l.getD (i+k) 0).toNat=(l.getD (i+k) 0).toNat:=fun _=>rfl;split
 ·rename_i h;exact⟨om,om,.inl ⟨h,rfl,rfl⟩⟩
 ·rename_i h;have one:∀ c:Nat,128<=c->1<=(c,1).2/\i+(c,1).2<=l.length/\((b0<128/\(c,1).1=b0/\(c,1).2=1)\/(128<=b0/\128<=(c,1).1/\∀ k,0<k->k<(c,1).2->128<=(l.getD (i+k) 0).toNat)):=
   fun c hc=>⟨Nat.le_refl _,by simp only;omega,.inr ⟨om,hc,fun k h1 h2=>by simp only at h2;omega⟩⟩
  split
  ·rename_i h1;simp only[Bool.and_eq_true,decide_eq_true_eq,beq_iff_eq] at h1;obtain⟨h1,h2,h3⟩:=h1;split
   ·rename_i h4;refine⟨by simp only;omega,by simp only;omega,.inr ⟨om,by simp only;omega,fun k g1 g2=>?_⟩⟩;simp only at g2;obtain rfl:k=1:=by omega
    omega
   ·exact one _ dc
  ·split
   ·rename_i h1;simp only[Bool.and_eq_true,decide_eq_true_eq,beq_iff_eq] at h1;obtain⟨⟨h1,h2,h3⟩,h4,h5⟩:=h1;split
    ·rename_i h6;simp only[Bool.and_eq_true,decide_eq_true_eq,ge_iff_le] at h6;refine⟨by simp only;omega,by simp only;omega,.inr ⟨om,by simp only;omega,fun k g1 g2=>?_⟩⟩;simp only at g2;rcases (by omega:k=1\/k=2) with rfl|rfl <;> omega
    ·exact one _ dc
   ·split
    ·rename_i h1;simp only[Bool.and_eq_true,decide_eq_true_eq,beq_iff_eq] at h1;obtain⟨⟨⟨h1,h2,h3⟩,h4,h5⟩,h6,h7⟩:=h1;split
     ·rename_i h8;simp only[Bool.and_eq_true,decide_eq_true_eq,ge_iff_le] at h8;refine⟨by simp only;omega,by simp only;omega,.inr ⟨om,by simp only;omega,fun k g1 g2=>?_⟩⟩;simp only at g2;rcases (by omega:k=1\/k=2\/k=3) with rfl|rfl|rfl <;> omega
     ·exact one _ dc
    ·exact one _ dc
theorem Zf {l:Bs}{i c:Nat}(hi:i<l.length)(hc:c<128):((iA l i).1=c↔(l.getD i 0).toNat=c)/\((iA l i).1≠c->∀ j,i<=j->j<i+(iA l i).2->(l.getD j 0).toNat≠c):=by
 obtain⟨h1,h2,h3⟩:=Ah hi;rcases h3 with⟨h3,h4,h5⟩|⟨h3,h4,h5⟩
 ·refine⟨om,fun hne j g1 g2=>?_⟩;obtain rfl:j=i:=by omega
  omega
 ·refine⟨om,fun hne j g1 g2=>?_⟩;by_cases hj:j=i
  ·subst hj;omega
  ·have:=h5 (j-i) om om;rw[show i+(j-i)=j by omega] at this;omega
section
variable {P:Program} {N:Nat} {ops:Array Oper} {Q:Exit->Act->World->Prop} {rest:List Oper} {s:Base} {e:Env} {m:List Piece} {d:Nat} {ty:TypeId} {pos:String} {af:Array Edge}
theorem St.newObj {ok:Ok}{w:World}(h:St s ok m w){o:Obj}(ho:Obj.notCells o=true):∃ ok',St s ok' (.obj w.heap.size o::m) (w.alloc o)/\Stp ok w ok' (w.alloc o):=by
 have hk:∀ b j,b<w.heap.size->((ok b j/\b≠w.heap.size)↔ok b j):=fun b j hb=>⟨fun h=>h.1,fun h=>⟨h,om⟩⟩;have pU:(w.alloc o).heap[w.heap.size]?=some o:=by
  show (w.heap.push o)[w.heap.size]?=some o;simp
 have hsz:(w.alloc o).heap.size=w.heap.size+1:=by
  show (w.heap.push o).size=_;simp
 refine⟨fun b j=>ok b j/\b≠w.heap.size,h.grow (new:=[.obj w.heap.size o]) (Ext.alloc w o) hk (fun b j hb=>⟨h.fresh b j om,om⟩) ?_ ?_ ?_ ?_⟩
 ·intro p hp;rw[List.mem_singleton] at hp;subst hp;exact⟨pU,ho⟩
 ·intro p hp g hg;rw[List.mem_singleton] at hp;subst hp;injection hg with hg
  omega
 ·intro p hp b j hb hh;rw[List.mem_singleton] at hp;subst hp;exact hh.2 hb
 ·exact List.pairwise_singleton _ _
theorem St.setObj {ok:Ok}{w:World}{pre post:List Piece}{g:Nat}{o o':Obj}(h:St s ok (pre++.obj g o::post) w)(ho:Obj.notCells o'=true) :
  St s ok (pre++.obj g o'::post) { w with heap:=w.heap.setIfInBounds g o' }/\Stp ok w ok { w with heap:=w.heap.setIfInBounds g o' }:=by
 have hpm:Piece.obj g o∈pre++.obj g o::post:=sm
 have hlt:g<w.heap.size:=(h.lt _ hpm g rfl).1;have hoth:∀ b,b≠g->(w.heap.setIfInBounds g o')[b]?=w.heap[b]?:=fun b hb=>Array.getElem?_setIfInBounds_ne (Ne.symm hb);have hst:Stp ok w ok { w with heap:=w.heap.setIfInBounds g o' }:=⟨sm,fun b j u h1 h2=>by
  have hne:b≠g:=by
   rintro rfl;exact h.own _ hpm b j rfl h2
  exact⟨(wI (hoth b hne)).trans h1,h2⟩⟩
 refine⟨h.write (g:=g) (p':=.obj g o') rfl (.inl rfl) hst ⟨by simp[hlt],ho⟩ (fun b j hb=>h.own _ hpm b j hb) sm rfl rfl rfl hoth (fun _ _ _=>Iff.rfl),hst⟩
theorem a7B {T:TypeId}[t:TyT P T]{x:Operand}{l:Bs}(h:∀ g,AL P N ops Q s rest ((d,ptr g)::e) (.obj g (.stringIter ⟨l.toArray⟩ 0)::m))(hx:ev e x=some (str l):=by exact rfl)(hd:Nat.blt d N=true:=by exact rfl):AL P N ops Q s (⟨some d,.range T x,ty,pos,af,none⟩::rest) e m:=
 iR (fun ok w A hS hA=>by
  obtain⟨ok',g1,g2⟩:=hS.newObj (o:=.stringIter ⟨l.toArray⟩ 0) rfl;exact⟨_,.pointer (some ⟨w.heap.size,0,none⟩),w.alloc (.stringIter ⟨l.toArray⟩ 0),ok',_,by simp[execOp,hA.lit hx,Instr.range,run_underlying t.out,newObj,Sem.run],RVl rfl,g1,g2,h w.heap.size⟩) hd
theorem a7P {x:Operand}{l:Bs}{g i:Nat}{pre post:List Piece}(hi:i<l.length)(hm:m=pre++.obj g (.stringIter ⟨l.toArray⟩ i)::post)(h:AL P N ops Q s rest ((d,.tup [j3 true,int i,.lit (.int .i32 (iA l i).1)])::e) (pre++.obj g (.stringIter ⟨l.toArray⟩ (i+(iA l i).2))::post))(hx:ev e x=some (ptr g):=by exact rfl)(hd:Nat.blt d N=true:=by exact rfl):AL P N ops Q s (⟨some d,.next x true,ty,pos,af,none⟩::rest) e m:=
 iR (fun ok w A hS hA=>by
  subst hm;obtain⟨ho,_⟩:=hS.at_ (.obj g (.stringIter ⟨l.toArray⟩ i)) sm;obtain⟨g1,g2⟩:=hS.setObj (o':=.stringIter ⟨l.toArray⟩ (i+(iA l i).2)) rfl;have hi':i<(⟨l.toArray⟩:ByteArray).size:=by rw[jS];exact hi
  exact⟨.tup [j3 true,int i,.lit (.int .i32 (iA l i).1)],.tuple #[.bool true,.int .i64 i,.int .i32 (iA l i).1],_,ok,_,by
   simp[execOp,hA.lit hx,Instr.next,getObj,setObj,Sem.run,ho,hi',goInt,iA],⟨_,rfl,_,_,rfl,RV0.of_lit rfl,_,_,rfl,RV0.of_lit rfl,_,_,rfl,RV0.of_lit rfl,rfl⟩,g1,g2,h⟩) hd
theorem a7Q {x:Operand}{l:Bs}{g i:Nat}(hi:l.length<=i)(hm:Piece.obj g (.stringIter ⟨l.toArray⟩ i)∈m)(h:AL P N ops Q s rest ((d,.tup [j3 false])::e) m)(hx:ev e x=some (ptr g):=by exact rfl)(hd:Nat.blt d N=true:=by exact rfl):AL P N ops Q s (⟨some d,.next x true,ty,pos,af,none⟩::rest) e m:=
 bF (fun ok w A hS hA=>by
  obtain⟨ho,_⟩:=hS.at_ _ hm;have hi':¬ i<(⟨l.toArray⟩:ByteArray).size:=by rw[jS];omega
  exact⟨.tuple #[.bool false],by simp[execOp,hA.lit hx,Instr.next,getObj,Sem.run,ho,hi'],⟨_,rfl,_,_,rfl,RV0.of_lit rfl,rfl⟩⟩) hd h
end
end Av

namespace Go.Proofs.YtocpacdnjbjjmaaGreatDoor
open Go Go.RowKit Tw Av
abbrev MpE:=Int × Bs × Nat
def cO (es:List MpE)(a:Int):Option Bs:=(es.find? fun e=>decide (e.1=a)).map (·.2.1)
def Z6 (es:List MpE)(a:Int):Nat:=es.findIdx fun e=>decide (e.1=a)
def bJ (es:List MpE)(ck:Nat)(a:Int)(s:Bs):List MpE:=if Z6 es a<es.length then es.modify (Z6 es a) (fun e=>(a,s,e.2.2)) else es++[(a,s,ck)]
def vS (es:List MpE)(ck:Nat)(a:Int):Nat:=if Z6 es a<es.length then ck else ck+1
def jF (es:List MpE)(a:Int):List MpE:=es.eraseIdx (Z6 es a)
def MpN (es:List MpE):Prop:=(es.map (·.1)).Nodup
theorem a1J {es:List MpE}{ck:Nat}{a:Int}{s:Bs}:(bJ es ck a s).map (·.1)=if Z6 es a<es.length then es.map (·.1) else es.map (·.1)++[a]:=by
 unfold bJ;by_cases h:Z6 es a<es.length
 ·rw[if_pos h,if_pos h];apply List.ext_getElem
  ·simp
  ·intro i h1 h2;simp only[List.getElem_map,List.getElem_modify];by_cases e:Z6 es a=i
   ·rw[if_pos e];have:=List.findIdx_getElem (w:=h);subst e;exact(of_decide_eq_true this).symm
   ·rw[if_neg e]
 ·rw[if_neg h,if_neg h];simp
theorem a1K {es:List MpE}{a:Int}(h:¬ Z6 es a<es.length):a ∉ es.map (·.1):=by
 intro hm;obtain⟨e,he,rfl⟩:=List.mem_map.1 hm;exact h (List.findIdx_lt_length_of_exists ⟨e,he,sm⟩)
theorem TE {es:List MpE}{ck:Nat}{a:Int}{s:Bs}(h:MpN es):MpN (bJ es ck a s):=by
 unfold MpN;rw[a1J];split
 ·exact h
 ·rename_i hn;rw[List.nodup_append];refine⟨h,sm,fun x hx y hy=>?_⟩;rw[List.mem_singleton.1 hy];exact fun e=>a1K hn (e ▸ hx)
theorem a1N {es:List MpE}{a:Int}(h:MpN es):MpN (jF es a):=by
 unfold MpN jF;exact h.sublist ((List.eraseIdx_sublist _ _).map _)
theorem sO (e:MpE)(es:List MpE)(a:Int):cO (e::es) a=if e.1=a then some e.2.1 else cO es a:=by
 unfold cO;rw[List.find?_cons];by_cases h:e.1=a <;> simp[h]
theorem a1M (a:Int):cO [] a=none:=rfl
theorem BF (e:MpE)(es:List MpE)(a:Int):Z6 (e::es) a=if e.1=a then 0 else Z6 es a+1:=by
 unfold Z6;rw[List.findIdx_cons];by_cases h:e.1=a <;> simp[h]
theorem TF {ck:Nat}{a:Int}{s:Bs}(b:Int):∀ {es:List MpE},cO (bJ es ck a s) b=if b=a then some s else cO es b
 | []=>by
  show cO [(a,s,ck)] b=_;rw[sO,a1M];by_cases h:b=a
  ·rw[if_pos h,if_pos h.symm]
  ·rw[if_neg h,if_neg (fun e=>h e.symm)]
 | e::es=>by
  have ih:=TF (ck:=ck) (a:=a) (s:=s) b (es:=es);by_cases h:e.1=a
  ·have h0:Z6 (e::es) a=0:=by rw[BF,if_pos h]
   have hp:bJ (e::es) ck a s=(a,s,e.2.2)::es:=by
    unfold bJ;rw[h0,if_pos sm];rfl
   rw[hp,sO,sO];by_cases hb:b=a
   ·rw[if_pos hb,if_pos hb.symm]
   ·rw[if_neg hb,if_neg (fun e=>hb e.symm),if_neg (fun e'=>hb (e'.symm.trans h))]
  ·have h0:Z6 (e::es) a=Z6 es a+1:=by rw[BF,if_neg h]
   have hp:bJ (e::es) ck a s=e::bJ es ck a s:=by
    unfold bJ;rw[h0,List.length_cons];by_cases hl:Z6 es a<es.length
    ·rw[if_pos om,if_pos hl];rfl
    ·rw[if_neg om,if_neg hl];rfl
   rw[hp,sO,sO,ih];by_cases hb:b=a
   ·rw[if_pos hb,if_pos hb,if_neg (fun e'=>h (e'.trans hb))]
   ·rw[if_neg hb,if_neg hb]
theorem a1L {es:List MpE}{a:Int}(h:a ∉ es.map (·.1)):cO es a=none:=by
 unfold cO;rw[List.find?_eq_none.2 (fun e he=>by simpa using fun e'=>h (List.mem_map.2 ⟨e,he,e'⟩))];rfl
theorem Fa {a:Int}(b:Int):∀ {es:List MpE},MpN es->cO (jF es a) b=if b=a then none else cO es b
 | [],_=>by
  show none=_;split <;> rfl
 | e::es,hn=>by
  have hn':e.1 ∉ es.map (·.1)/\MpN es:=by
   unfold MpN at hn ⊢;rw[List.map_cons,List.nodup_cons] at hn;exact hn
  have ih:=Fa (a:=a) b hn'.2;by_cases h:e.1=a
  ·have hp:jF (e::es) a=es:=by
    unfold jF;rw[BF,if_pos h];rfl
   rw[hp,sO];by_cases hb:b=a
   ·rw[if_pos hb];exact a1L (by rw[hb,<- h];exact hn'.1)
   ·rw[if_neg hb,if_neg (fun e'=>hb (e'.symm.trans h))]
  ·have hp:jF (e::es) a=e::jF es a:=by
    unfold jF;rw[BF,if_neg h];rfl
   rw[hp,sO,sO,ih];by_cases hb:b=a
   ·rw[if_pos hb,if_pos hb,if_neg (fun e'=>h (e'.trans hb))]
   ·rw[if_neg hb,if_neg hb]
def qH:Bs:=List.replicate 64 0
structure DvX where
 n:Int
 es:List MpE
 ck:Nat
 ws:List (Int × Bs)
 on:Bool
 ar:Bool
 lf:Int
 st:Int
def iM (n:Int):DvX:=⟨n,[],0,[],true,false,0,0⟩
def aQ (x:DvX)(a:Int):Bool:=decide (0<=a/\a<x.n)
def D9 (x:DvX)(a:Int):Bs:=(cO x.es a).getD qH
def FZ (es:List MpE)(ck:Nat)(w:Int × Bs):List MpE:=if w.2=qH then jF (bJ es ck w.1 w.2) w.1 else bJ es ck w.1 w.2
def kpC (es:List MpE)(ck:Nat)(w:Int × Bs):Nat:=vS es ck w.1
def Y6 (x:DvX)(w:Int × Bs):DvX:={ x with es:=FZ x.es x.ck w,ck:=kpC x.es x.ck w }
theorem Gn {es:List MpE}{ck:Nat}{w:Int × Bs}(h:MpN es):MpN (FZ es ck w):=by
 unfold FZ;split
 ·exact a1N (TE h)
 ·exact TE h
theorem VH {x:DvX}{w:Int × Bs}(h:MpN x.es)(b:Int):D9 (Y6 x w) b=if b=w.1 then w.2 else D9 x b:=by
 unfold D9 Y6 FZ;dsimp only;split
 ·rename_i hz;rw[Fa b (TE h),TF];by_cases hb:b=w.1
  ·rw[if_pos hb,if_pos hb,hz];rfl
  ·rw[if_neg hb,if_neg hb,if_neg hb]
 ·rw[TF];by_cases hb:b=w.1
  ·rw[if_pos hb,if_pos hb];rfl
  ·rw[if_neg hb,if_neg hb]
def bH (ws:List (Int × Bs))(a:Int):Option Bs:=(ws.reverse.find? fun w=>decide (w.1=a)).map (·.2)
def Z8 (x:DvX)(a:Int):Bs:=(bH x.ws a).getD (D9 x a)
def bK (x:DvX)(w:Int × Bs):DvX:={ x with ws:=x.ws++[w] }
def U9 (x:DvX):DvX:={ x.ws.foldl Y6 x with ws:=[] }
def bL (x:DvX):Bool:=!(x.ar&&decide (x.lf=0))
def I9 (x:DvX):DvX:={ x with lf:=if x.ar=true then x.lf-1 else x.lf,st:=IntKind.i64.wrap (x.st+1) }
def dF (x:DvX):DvX:={ x with on:=false }
def K4 (x:DvX)(a:Int)(s:Bs):DvX × Int:=
 if x.on=false then (x,14) else if aQ x a=false\/s.length≠64 then (x,1)
 else if bL x=false then (bK (dF x) (a,s),14) else (bK (I9 x) (a,s),0)
def R5 (x:DvX):DvX × Int:=if x.on=false then (x,14) else if bL x=false then (dF x,14) else (U9 (I9 x),0)
def nC (x:DvX)(k:Int):DvX:={ x with ar:=true,lf:=max k 0 }
def bD (x:DvX)(k:List Bool)(torn cut:Int)(i:Nat)(w:Int × Bs):DvX:=
 if k.getD i false=true then Y6 x (w.1,if (i:Int)=torn then w.2.take (min (max cut 0) 64).toNat++(D9 x w.1).drop (min (max cut 0) 64).toNat else w.2) else x
def iO (k:List Bool)(torn cut:Int):Nat->DvX->List (Int × Bs)->DvX
 | _,x,[]=>x
 | i,x,w::ws=>iO k torn cut (i+1) (bD x k torn cut i w) ws
def S9 (x:DvX)(k:List Bool)(torn cut:Int):DvX:=if x.n=0 then x else { iO k torn cut 0 x x.ws with ws:=[],on:=true,ar:=false }

abbrev sP (e:MpE):MapEntry:=⟨.int .i64 e.1,sv e.2.1,e.2.2⟩
abbrev cK (es:List MpE)(ck:Nat):Obj:=.map (es.map sP).toArray ck
abbrev uF (g:Nat):AV:=.lit (.map (some g))
class TyMp (P:Program)(T:TypeId)(K V:outParam TypeId):Prop where
 out:P.underlying T=some (.map K V)
 key:P.underlying K=some (.int .i64)
 val:(P.info? V).map (·.zero)=some (some (sv []))
theorem Ki (a:Int):∀ (es:List MpE) (i:Nat),Instr.findNow (.int .i64) (.int .i64 a) (es.map sP) i=some (if Z6 es a<es.length then some (Z6 es a+i,sv ((cO es a).getD [])) else none)
 | [],i=>rfl
 | e::es,i=>by
  rw[List.map_cons];unfold Instr.findNow;have h1:Instr.sameNow (.int .i64) (.int .i64 a) (sP e).key=some (a == e.1):=by simp[Instr.sameNow]
  rw[h1,BF,sO];by_cases h:e.1=a
  ·subst h;simp
  ·have h2:(a == e.1)=false:=by simpa using fun h'=>h h'.symm
   rw[h2,if_neg h,if_neg h];dsimp only;rw[Ki a es (i+1)];by_cases hl:Z6 es a<es.length
   ·rw[if_pos hl,if_pos (by simpa using hl)];congr 3
    omega
   ·rw[if_neg hl,if_neg (by simpa using hl)]
theorem Fb:∀ {es:List MpE} {a:Int},(cO es a).isSome=decide (Z6 es a<es.length)
 | [],a=>rfl
 | e::es,a=>by
  rw[sO,BF];by_cases h:e.1=a
  ·rw[if_pos h,if_pos h];simp
  ·rw[if_neg h,if_neg h,Fb];simp
section
variable {P:Program} {N:Nat} {ops:Array Oper} {Q:Exit->Act->World->Prop} {rest:List Oper} {s:Av.Base} {e:Av.Env} {m:List Av.Piece} {d:Nat} {ty:TypeId} {pos:String} {af:Array Edge}
theorem QR {T K V:TypeId}[t:TyMp P T K V]{a:Int}{es:List MpE}{w:World}:(Instr.findKey K (.int .i64 a) (es.map sP)).run P w=.ok (if Z6 es a<es.length then some (Z6 es a,sv ((cO es a).getD [])) else none) w:=by
 unfold Instr.findKey;simp only[Sem.run_bind,run_underlying t.key,Result.andThen_ok,Ki,Nat.add_zero,Sem.run_pure]
theorem run_checkKey {T K V:TypeId}[t:TyMp P T K V]{a:Int}{b:Bool}{w:World}:(Instr.checkKey b 10000 K (.int .i64 a)).run P w=.ok () w:=by
 unfold Instr.checkKey;simp only[Sem.run_bind,run_underlying t.key,Result.andThen_ok,Sem.run_pure]
theorem a1I {T K V:TypeId}[t:TyMp P T K V]:∃ i,P.info? V=some i/\i.zero=some (sv []):=by
 have:=t.val;cases h:P.info? V with
 | none=>rw[h] at this;cases this
 | some i=>
  rw[h] at this;exact⟨i,rfl,by simpa using this⟩
theorem a7Z {T K V:TypeId}[t:TyMp P T K V]{x i:Operand}{g:Nat}{a:Int}{es:List MpE}{ck:Nat}(h:AL P N ops Q s rest ((d,.tup [str ((cO es a).getD []),j3 (cO es a).isSome])::e) m)(hx:ev e x=some (uF g):=by exact rfl)(hi:ev e i=some (int a):=by exact rfl)
  (hm:Has m (.obj g (cK es ck)):=by (repeat (first|exact Av.Has.here|apply Av.Has.there))) (hd:Nat.blt d N=true:=by exact rfl):AL P N ops Q s (⟨some d,.lookup T x i true,ty,pos,af,none⟩::rest) e m:=
 bF (fun ok w A hS hA=>by
  obtain⟨ho,_⟩:=hS.at_ _ hm.mem;obtain⟨iz,q1,q2⟩:=a1I (P:=P) (T:=T);have h1:=QR (P:=P) (T:=T) (a:=a) (es:=es) (w:=w);have h2:=run_checkKey (P:=P) (T:=T) (a:=a) (b:=(es.map sP).toArray.isEmpty) (w:=w);have h3:=Fb (es:=es) (a:=a);refine⟨.tuple #[sv ((cO es a).getD []),.bool (cO es a).isSome],?_,⟨_,rfl,_,_,rfl,RV0.of_lit rfl,_,_,rfl,RV0.of_lit rfl,rfl⟩⟩;have hg:(getObj g).run P w=.ok (cK es ck) w:=by simp[getObj,Sem.run,ho]
  simp only[execOp,hA.lit hx,hA.lit hi,Instr.lookup,Sem.run_bind,run_underlying t.out,Result.andThen_ok,hg,h2,Sem.run_pure];by_cases hl:Z6 es a<es.length
  ·rw[if_pos hl] at h1;rw[dT hl] at h3;rw[h3];simp[h1]
  ·rw[if_neg hl] at h1;rw[dZ hl] at h3;have h4:cO es a=none:=by simpa using h3
   rw[h4];simp[h1,zeroValue,typeInfo,q1,q2]) hd h
theorem Fu {α β:Type}(f:α->β):∀ (l:List α) (i:Nat),(l.eraseIdx i).map f=(l.map f).eraseIdx i
 | [],_=>rfl
 | _::_,0=>rfl
 | a::l,i+1=>by simp[Fu f l i]
theorem Ak {g:Nat}{o o':Obj}{w:World}(ho:w.heap[g]?=some o)(hn:Obj.notCells o=true):(setObj g o').run P w=.ok () { w with heap:=w.heap.setIfInBounds g o' }:=by
 cases o <;> first|(simp[setObj,Sem.run,ho];done)|cases hn
theorem a7W {T K V:TypeId}[t:TyMp P T K V]{x i y:Operand}{g:Nat}{a:Int}{b:Bs}{es:List MpE}{ck:Nat}{pre post:List Av.Piece}(h:AL P N ops Q s rest e (pre++.obj g (cK (bJ es ck a b) (vS es ck a))::post))(hm:m=pre++.obj g (cK es ck)::post)(hx:ev e x=some (uF g):=by exact rfl)(hi:ev e i=some (int a):=by exact rfl)(hy:ev e y=some (str b):=by exact rfl) :
  AL P N ops Q s (⟨none,.mapUpdate T x i y,ty,pos,af,none⟩::rest) e m:=
 OH (fun ok w A hS hA=>by
  subst hm;obtain⟨ho,hno⟩:=hS.at_ (.obj g (cK es ck)) sm;obtain⟨g1,g2⟩:=hS.setObj (o':=cK (bJ es ck a b) (vS es ck a)) rfl;have h1:=QR (P:=P) (T:=T) (a:=a) (es:=es) (w:=w);have h2:=run_checkKey (P:=P) (T:=T) (a:=a) (b:=false) (w:=w);have h3:=Ak (P:=P) (o':=cK (bJ es ck a b) (vS es ck a)) ho hno;refine⟨_,ok,?_,g1,g2⟩;have hg:(getObj g).run P w=.ok (cK es ck) w:=by simp[getObj,Sem.run,ho]
  simp only[execOp,hA.lit hx,hA.lit hi,hA.lit hy,Instr.mapUpdate,Sem.run_bind,run_underlying t.out,Result.andThen_ok,hg,h2,h1];by_cases hl:Z6 es a<es.length
  ·rw[if_pos hl];have h5:(es[Z6 es a]'hl).1=a:=of_decide_eq_true (List.findIdx_getElem (w:=hl));have h6:(es.map sP).modify (Z6 es a) (fun e=>{ key:=.int .i64 a,val:=sv b,born:=e.born })=(bJ es ck a b).map sP:=by
    apply List.ext_getElem
    ·simp[bJ,hl]
    ·intro i hi1 hi2;simp[bJ,hl,List.getElem_modify];split <;> rfl
   have h8:vS es ck a=ck:=if_pos hl;rw[h8] at h3 ⊢;simp[hl,h5,Instr.keyThatStays,Instr.sameBits,h6];rw[h3];rfl
  ·rw[if_neg hl];have h7:Obj.map ((es.map sP).toArray.push { key:=.int .i64 a,val:=sv b,born:=ck }) (ck+1)=cK (bJ es ck a b) (vS es ck a):=by
    unfold vS bJ;rw[if_neg hl,if_neg hl];simp[cK]
   simp only[h7,h3,Result.andThen_ok,Sem.run_pure]) h
theorem a7X {T K V S:TypeId}[t:TyMp P T K V]{x i:Operand}{g:Nat}{a:Int}{es:List MpE}{ck:Nat}{pre post:List Av.Piece}(h:AL P N ops Q s rest e (pre++.obj g (cK (jF es a) ck)::post))(hm:m=pre++.obj g (cK es ck)::post)(hx:ev e x=some (uF g):=by exact rfl)(hi:ev e i=some (int a):=by exact rfl) :
  AL P N ops Q s (⟨none,.call ⟨.builtin .delete,#[x,i],#[T,S]⟩,ty,pos,af,none⟩::rest) e m:=
 Qg (fun ok w A hS hA=>by
  subst hm;obtain⟨ho,hno⟩:=hS.at_ (.obj g (cK es ck)) sm;obtain⟨g1,g2⟩:=hS.setObj (o':=cK (jF es a) ck) rfl;have h1:=QR (P:=P) (T:=T) (a:=a) (es:=es) (w:=w);have h2:=run_checkKey (P:=P) (T:=T) (a:=a) (b:=(es.map sP).toArray.isEmpty) (w:=w);have h3:=Ak (P:=P) (o':=cK (jF es a) ck) ho hno;refine⟨.tuple #[],_,ok,?_,g1,g2⟩;have hg:(getObj g).run P w=.ok (cK es ck) w:=by simp[getObj,Sem.run,ho]
  have hx':=hA.lit hx;have hi':=hA.lit hi;simp only[execOp,resolve,invoke,builtin,List.map_toArray,List.map_cons,List.map_nil,hx',hi',Builtin.delete_,List.getElem?_toArray,List.getElem?_cons_zero,List.getElem?_cons_succ,Sem.run_bind,run_underlying t.out,Result.andThen_ok,hg,h2,h1,Sem.run_pure];by_cases hl:Z6 es a<es.length
  ·rw[if_pos hl];have h7:Obj.map ((es.map sP).toArray.eraseIdxIfInBounds (Z6 es a)) ck=cK (jF es a) ck:=by
    simp[cK,jF,Array.eraseIdxIfInBounds,hl,Fu]
   simp only[h7,h3,Sem.run_bind,Result.andThen_ok,Sem.run_pure]
  ·rw[if_neg hl];have h7:jF es a=es:=List.eraseIdx_of_length_le om;rw[h7] at h3 ⊢;simp only[Sem.run_bind,h3,Result.andThen_ok,Sem.run_pure]) h
theorem a7Y {T K V:TypeId}[TyMp P T K V](h:∀ g,AL P N ops Q s rest ((d,uF g)::e) (.obj g (cK [] 0)::m))(hd:Nat.blt d N=true:=by exact rfl):AL P N ops Q s (⟨some d,.makeMap T none,ty,pos,af,none⟩::rest) e m:=
 iR (fun ok w A hS hA=>by
  obtain⟨ok',g1,g2⟩:=hS.newObj (o:=cK [] 0) rfl;exact⟨_,.map (some w.heap.size),w.alloc (cK [] 0),ok',_,by simp[execOp,Instr.makeMap,newObj,Sem.run];rfl,RVl rfl,g1,g2,h w.heap.size⟩) hd
theorem Nu {ok:Ok}{w:World}:∀ l:Bs,RCs ok w (l.map fun c=>AV.lit (j6 c)) (l.map j6)
 | []=>by rw[List.map_nil,RCs];rfl
 | c::l=>by
  rw[List.map_cons,RCs];exact⟨[j6 c],l.map j6,rfl,by rw[RC];exact⟨rfl,rfl⟩,Nu l⟩
theorem yV {T E:TypeId}[t:TyE P T E 1 1][tz:TyO P E (.lit (j6 0))]{x y:Operand}{q:Int}(h:AL P N ops Q s rest ((d,.sl 1 ((List.replicate q.toNat (0:UInt8)).map fun c=>.lit (j6 c)) none)::e) m)
  (hx:ev e x=some (int q):=by exact rfl) (hy:ev e y=some (int q):=by exact rfl) (hq:0<=q/\q<=1048576:=by first|omega|decide) (hd:Nat.blt d N=true:=by exact rfl):AL P N ops Q s (⟨some d,.makeSlice T x y,ty,pos,af,none⟩::rest) e m:=by
 refine wM (v:=.sl 1 ((List.replicate q.toNat (0:UInt8)).map fun c=>.lit (j6 c)) none) (fun ok w A hS hA=>?_) hd;obtain⟨i,z,q1,q2,hzk,hik,hib⟩:=t.zero;have e1:=tz.out;rw[q1,show aT 8 (.lit (j6 0))=some [j6 0] from rfl] at e1;have e2:z.cells.toList=[j6 0]/\X7 z=false:=by simpa[q2,AV.isAgg] using e1
 have hz1:z=j6 0:=by
  have:=yK e2.2;rw[this] at e2;simpa using e2.1
 subst hz1;have hn:((q.toNat:Nat):Int)=q:=by omega
 have hr:=run_make_row (P:=P) T E i (j6 0) t.l.out q1 q2 hik rfl .i64 .i64 q.toNat (by rw[hib];omega) om w;rw[hn] at hr;have hE:=Ext.alloc w (.cells (madeCells #[j6 0] q.toNat) E);have hblk:(w.alloc (.cells (madeCells #[j6 0] q.toNat) E)).heap[w.heap.size]?=some (.cells (madeCells #[j6 0] q.toNat) E (0,0)):=heap_alloc_new w _;have hcl:(madeCells #[j6 0] q.toNat).toList=(List.replicate q.toNat (0:UInt8)).map j6:=by
  apply List.ext_getElem
  ·simp[madeCells]
  ·intro j h1 h2;simp[madeCells,Nat.mod_one]
 refine⟨.slice (some ⟨w.heap.size,0,none⟩) q.toNat q.toNat,_,ok,m,by simp[execOp,hA.lit hx,hA.lit hy,hr],?_,hS.ext hE,Ext.astp hE ok,h⟩;refine RV.sl sm sm (Nat.le_refl _) (by simp only[maxLen];omega) (fun hp=>⟨w.heap.size,0,(List.replicate q.toNat (0:UInt8)).map j6,rfl,sm,fun j v hj=>?_,Nu _⟩) (fun x hx=>by
  obtain⟨c,_,rfl⟩:=List.mem_map.1 hx;rfl)
 rw[Nat.zero_add,cell_of_row _ _ _ _ _ _ hblk];refine⟨?_,hS.fresh _ _ (Nat.le_refl _)⟩;rw[<- hcl] at hj;simpa using hj
theorem X0 {f:FuncId}[hf:FnB P f]{xs:List Operand}{ts:Array TypeId}{args:List AV}(pre m1 post:List Av.Piece){K:AV->List Av.Piece->Prop}{gl:List (Nat × AV)}(hc:Av.Spec P gl f args m1 K)(h:∀ v m1',K v m1'->AL P N ops Q s rest ((d,v)::e) (pre++(m1'++post)))
  (hm:m=pre++(m1++post):=by exact rfl) (hg:s.gl=gl:=by assumption) (hx:L8 e xs=some args:=by exact rfl) (hn:args.all P7=true:=by exact rfl) (hd:Nat.blt d N=true:=by exact rfl):AL P N ops Q s (⟨some d,.call ⟨.value (.func f),xs.toArray,ts⟩,ty,pos,af,none⟩::rest) e m:=by
 subst hm hg;refine M3 m1 (pre++post) hc (fun v m1' hk=>?_) (List.perm_append_comm_assoc _ _ _) hx hn hd;exact nJ (fun ok w hS=>hS.perm (List.perm_append_comm_assoc _ _ _)) (h v m1' hk)
theorem aC {f:FuncId}[hf:FnB P f]{xs:List Operand}{ts:Array TypeId}{args:List AV}(pre m1:List Av.Piece){K:AV->List Av.Piece->Prop}{gl:List (Nat × AV)}(hc:Av.Spec P gl f args m1 K)(h:∀ v m1',K v m1'->AL P N ops Q s rest ((d,v)::e) (pre++m1'))
  (hm:m=pre++m1:=by exact rfl) (hg:s.gl=gl:=by assumption) (hx:L8 e xs=some args:=by exact rfl) (hn:args.all P7=true:=by exact rfl) (hd:Nat.blt d N=true:=by exact rfl):AL P N ops Q s (⟨some d,.call ⟨.value (.func f),xs.toArray,ts⟩,ty,pos,af,none⟩::rest) e m:=by
 subst hm hg;refine M3 m1 pre hc (fun v m1' hk=>?_) List.perm_append_comm hx hn hd;exact nJ (fun ok w hS=>hS.perm List.perm_append_comm) (h v m1' hk)
theorem wP {f:FuncId}[hf:FnB P f]{x:Operand}{xs:List Operand}{ts:Array TypeId}{args:List AV}{cs:List Value}{K:AV->List Av.Piece->Prop}{gl:List (Nat × AV)}(hc:Av.Spec P gl f (args++cs.map .lit) m K)(h:∀ v m1',K v m1'->AL P N ops Q s rest ((d,v)::e) m1')
  (hg:s.gl=gl:=by assumption) (h0:ev e x=some (D6 f cs):=by exact rfl) (hx:L8 e xs=some args:=by exact rfl) (hn:args.all P7=true:=by exact rfl) (hcs:∀ v∈cs,v.oneCell'=true:=by simp[Value.oneCell']) (hd:Nat.blt d N=true:=by exact rfl) :
  AL P N ops Q s (⟨some d,.call ⟨.value x,xs.toArray,ts⟩,ty,pos,af,none⟩::rest) e m:=by
 subst hg;refine kP m [] hc (fun v m1' hk=>?_) sm h0 hx hn hcs hd;rw[List.append_nil];exact h v m1' hk
theorem R6 {f:FuncId}[hf:FnB P f]{xs:List Operand}{ts:Array TypeId}{args:List AV}{K:AV->List Av.Piece->Prop}{gl:List (Nat × AV)}(hc:Av.Spec P gl f args m K)(h:∀ v m1',K v m1'->AL P N ops Q s rest ((d,v)::e) m1')
  (hg:s.gl=gl:=by assumption) (hx:L8 e xs=some args:=by exact rfl) (hn:args.all P7=true:=by exact rfl) (hd:Nat.blt d N=true:=by exact rfl):AL P N ops Q s (⟨some d,.call ⟨.value (.func f),xs.toArray,ts⟩,ty,pos,af,none⟩::rest) e m:=by
 subst hg;refine M3 m [] hc (fun v m1' hk=>?_) sm hx hn hd;rw[List.append_nil];exact h v m1' hk
theorem Pw {l:List Oper}(A B:List Av.Piece)(h:AL P N ops Q s l e (B++A))(hm:m=A++B:=by exact rfl):AL P N ops Q s l e m:=by
 subst hm;exact nJ (fun ok w hS=>hS.perm List.perm_append_comm) h
theorem jO {x:Exit}(m' l:List Av.Piece)(h:AE N x Q s e m')(hp:m'.Perm l)(hm:l.Sublist m):AE N x Q s e m:=nM (fun _ _ hS=>(hS.less hm).perm hp) h
theorem IQ {l':List Oper}(m' l:List Av.Piece)(h:AL P N ops Q s l' e m')(hp:m'.Perm l)(hm:l.Sublist m):AL P N ops Q s l' e m:=nJ (fun _ _ hS=>(hS.less hm).perm hp) h
theorem PD {c:Code}(m' l:List Av.Piece)(h:AC P N c Q s e m')(hp:m'.Perm l)(hm:l.Sublist m):AC P N c Q s e m:=O5 (fun _ _ hS=>(hS.less hm).perm hp) h
end
end Go.Proofs.YtocpacdnjbjjmaaGreatDoor
