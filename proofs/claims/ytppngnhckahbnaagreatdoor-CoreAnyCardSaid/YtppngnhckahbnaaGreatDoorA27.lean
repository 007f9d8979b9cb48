/- A text appended to an own row of bytes; own bytes as a text; numbers of 64 bits out of bytes. No program is named. -/
import Derived.Lib.AppendStr
import Derived.Lib.UnsafeStr
import Derived.Lib.Builder
import Derived.Test.YtppngnhckahbnaaGreatDoorA26
namespace Av
open Go Go.RowKit Tw
def reEdge (ord:List Nat)(o:Oper):Oper:={ o with after:=o.after.map (fun e=>{ e with on:=ord.idxOf e.on }),guard:=o.guard.map fun g=>(ord.idxOf g.1,g.2) }
def permL (ord:List Nat)(l:List Oper):List Oper:=ord.map fun i=>reEdge ord (l.getD i default)
def permOK (ord:List Nat)(l:List Oper):Bool:=Nat.beq ord.length l.length && (List.range l.length).all (fun i=>Nat.blt (ord.idxOf i) l.length && Nat.beq (ord.idxOf (ord.getD i 0)) i && Nat.blt (ord.getD i 0) l.length && Nat.beq (ord.getD (ord.idxOf i) 0) i) &&
 l.all fun o=>o.after.toList.all (fun e=>Nat.blt e.on l.length) && (match o.guard with|some g=>Nat.blt g.1 l.length|none=>true)
structure Perm (ord:List Nat)(l:List Oper):Prop where
 len:ord.length=l.length
 lt:∀ i,i < l.length→ord.idxOf i < l.length
 back:∀ i,i < l.length→ord.getD (ord.idxOf i) 0=i
 olt:∀ j,j < l.length→ord.getD j 0 < l.length
 forth:∀ j,j < l.length→ord.idxOf (ord.getD j 0)=j
 edge:∀ o ∈ l,∀ e ∈ o.after.toList,e.on < l.length
 gd:∀ o ∈ l,∀ g,o.guard=some g→g.1 < l.length
theorem Perm.of {ord:List Nat}{l:List Oper}(h:permOK ord l=true):Perm ord l:=by
 unfold permOK at h
 simp only [Bool.and_eq_true] at h
 obtain⟨⟨h1,h2⟩,h3⟩:=h
 have h2':∀ i,i < l.length→((Nat.blt (ord.idxOf i) l.length=true∧Nat.beq (ord.idxOf (ord.getD i 0)) i=true)∧Nat.blt (ord.getD i 0) l.length=true)∧Nat.beq (ord.getD (ord.idxOf i) 0) i=true:=fun i hi=>by
  have:=List.all_eq_true.1 h2 i (List.mem_range.2 hi)
  simpa only [Bool.and_eq_true] using this
 have h3':∀ o ∈ l,o.after.toList.all (fun e=>Nat.blt e.on l.length)=true∧(match o.guard with|some g=>Nat.blt g.1 l.length|none=>true)=true:=fun o ho=>by
  have:=List.all_eq_true.1 h3 o ho
  simpa only [Bool.and_eq_true] using this
 refine⟨Nat.eq_of_beq_eq_true h1,fun i hi=>by simpa [Nat.blt_eq] using (h2' i hi).1.1.1,fun i hi=>Nat.eq_of_beq_eq_true (h2' i hi).2,fun i hi=>by simpa [Nat.blt_eq] using (h2' i hi).1.2,fun i hi=>Nat.eq_of_beq_eq_true (h2' i hi).1.1.2,fun o ho e he=>?_,fun o ho g hg=>?_⟩
 ·simpa [Nat.blt_eq] using List.all_eq_true.1 (h3' o ho).1 e he
 ·have:=(h3' o ho).2
  rw [hg] at this
  simpa [Nat.blt_eq] using this
variable {P:Program} {N:Nat} {Q:Exit→Act→World→Prop} {ord:List Nat} {l:List Oper}
theorem Perm.at_ (h:Perm ord l){j:Nat}(hj:j < l.length):(permL ord l)[j]?=some (reEdge ord (l[ord.getD j 0]'(h.olt j hj))):=by
 have hj2:j < ord.length:=by rw [h.len];exact hj
 have hg:ord.getD j 0=ord[j]:=by simp [List.getD,hj2]
 have hlt:=h.olt j hj
 unfold permL
 rw [List.getElem?_map,List.getElem?_eq_getElem hj2,Option.map_some]
 simp only [hg]
 rw [hg] at hlt
 simp [List.getD,hlt]
theorem Perm.length (h:Perm ord l):(permL ord l).length=l.length:=by simp [permL,h.len]
theorem ready_iff {ops:List Oper}{listed:Array Bool}{i:Nat}:i ∈ Region.ready .any ops.toArray listed↔∃ h:i < ops.length,listed.getD i true=false∧∀ e ∈ ops[i].after.toList,(Region.binds .any e=false∨listed.getD e.on false=true):=by
 unfold Region.ready
 rw [List.mem_filter,List.mem_range]
 constructor
 ·rintro⟨h1,h2⟩
  have h1':i < ops.length:=by simpa using h1
  refine⟨h1',?_⟩
  simp only [List.getElem?_toArray,List.getElem?_eq_getElem h1',Option.map_some,Option.getD_some,Bool.and_eq_true,Bool.not_eq_true'] at h2
  refine⟨h2.1,fun e he=>?_⟩
  have h3:=h2.2
  rw [← Array.all_toList] at h3
  have:=List.all_eq_true.1 h3 e he
  simpa [Bool.or_eq_true] using this
 ·rintro⟨h1,h2,h3⟩
  refine⟨by simpa using h1,?_⟩
  simp only [List.getElem?_toArray,List.getElem?_eq_getElem h1,Option.map_some,Option.getD_some,Bool.and_eq_true,Bool.not_eq_true']
  refine⟨h2,?_⟩
  rw [← Array.all_toList]
  refine List.all_eq_true.2 fun e he=>?_
  have:=h3 e he
  simpa [Bool.or_eq_true] using this
structure Same (ord:List Nat)(n:Nat)(L L':Array Bool):Prop where
 s:L.size=n
 s':L'.size=n
 at_:∀ i,i < n→L'.getD (ord.idxOf i) true=L.getD i true
theorem getD_any {L:Array Bool}{i:Nat}(h:i < L.size)(a b:Bool):L.getD i a=L.getD i b:=by simp [Array.getD,h]
theorem Perm.ready (h:Perm ord l){L L':Array Bool}(hs:Same ord l.length L L'){i:Nat}(hi:i < l.length):i ∈ Region.ready .any l.toArray L↔ord.idxOf i ∈ Region.ready .any (permL ord l).toArray L':=by
 have hp:=h.at_ (h.lt i hi)
 have hb:=h.back i hi
 have hlt':ord.idxOf i < (permL ord l).length:=by rw [h.length];exact h.lt i hi
 have he:(permL ord l)[ord.idxOf i]=reEdge ord l[i]:=by
  rw [List.getElem?_eq_getElem hlt'] at hp
  injection hp with hp
  rw [hp]
  simp only [hb]
 rw [ready_iff,ready_iff]
 have hm:l[i] ∈ l:=List.getElem_mem hi
 have hon:∀ e ∈ l[i].after.toList,L'.getD (ord.idxOf e.on) false=L.getD e.on false:=fun e h2=>by
  have h3:=h.edge _ hm e h2
  have:=hs.at_ e.on h3
  rwa [getD_any (by rw [hs.s'];exact h.lt _ h3) true false,getD_any (by rw [hs.s];exact h3) true false] at this
 have haft:((reEdge ord l[i]).after).toList=l[i].after.toList.map fun e=>{ e with on:=ord.idxOf e.on }:=by simp [reEdge]
 constructor
 ·rintro⟨_,h1,h2⟩
  refine⟨hlt',(hs.at_ i hi).trans h1,fun e' he'=>?_⟩
  rw [he,haft] at he'
  obtain⟨e,hm2,rfl⟩:=List.mem_map.1 he'
  rcases h2 e hm2 with h3|h3
  ·exact .inl h3
  ·exact .inr ((hon e hm2).trans h3)
 ·rintro⟨_,h1,h2⟩
  refine⟨hi,(hs.at_ i hi).symm.trans h1,fun e hm2=>?_⟩
  have h4:({ e with on:=ord.idxOf e.on }:Edge) ∈ (permL ord l)[ord.idxOf i].after.toList:=by
   rw [he,haft]
   exact List.mem_map.2 ⟨e,hm2,rfl⟩
  rcases h2 _ h4 with h3|h3
  ·exact .inl h3
  ·exact .inr ((hon e hm2).symm.trans h3)
theorem Perm.yielded (h:Perm ord l){g:Nat}(hg:g < l.length)(t:Array Value):yielded (permL ord l).toArray t (ord.idxOf g)=Go.yielded l.toArray t g:=by
 unfold Go.yielded
 have e1:(permL ord l).toArray[ord.idxOf g]?=some (reEdge ord l[g]):=by
  rw [List.getElem?_toArray,h.at_ (h.lt g hg)]
  simp only [h.back g hg]
 have e2:l.toArray[g]?=some l[g]:=by rw [List.getElem?_toArray,List.getElem?_eq_getElem hg]
 rw [e1,e2]
 rfl
theorem Perm.wpOp (h:Perm ord l){i:Nat}(hi:i < l.length){K K':Act→World→Prop}(hk:∀ a w,K' a w→K a w){a:Act}{w:World}(hw:wpOp P (permL ord l).toArray Q (ord.idxOf i) K' a w):Go.wpOp P l.toArray Q i K a w:=by
 unfold Go.wpOp at hw ⊢
 have e1:(permL ord l).toArray[ord.idxOf i]?=some (reEdge ord l[i]):=by
  rw [List.getElem?_toArray,h.at_ (h.lt i hi)]
  simp only [h.back i hi]
 have e2:l.toArray[i]?=some l[i]:=by rw [List.getElem?_toArray,List.getElem?_eq_getElem hi]
 rw [e1] at hw
 rw [e2]
 simp only at hw ⊢
 have e3:Region.wanted (reEdge ord l[i]) (Go.yielded (permL ord l).toArray a.tmps)=Region.wanted l[i] (Go.yielded l.toArray a.tmps):=by
  unfold Region.wanted
  have hgd:=h.gd l[i] (List.getElem_mem hi)
  cases hg:l[i].guard with
  | none=>simp [reEdge,hg]
  | some g=>
   have:=h.yielded (hgd g hg) a.tmps
   simp [reEdge,hg,this]
 rw [e3] at hw
 split
 ·rename_i hc
  rw [if_pos hc] at hw
  rcases hw with h1|h1
  ·exact .inl (Oper.wp_mono hk h1)
  ·exact .inr h1
 ·rename_i hc
  rw [if_neg hc] at hw
  exact hk _ _ hw
theorem Perm.wpAny (h:Perm ord l):∀ (fuel:Nat) (L L':Array Bool) (a:Act) (w:World),Same ord l.length L L'→Go.wpAny P .any (permL ord l).toArray Q fuel L' a w→Go.wpAny P .any l.toArray Q fuel L a w:=by
 have hnil:∀ {L L':Array Bool},Same ord l.length L L'→(Region.ready .any l.toArray L=[]↔Region.ready .any (permL ord l).toArray L'=[]):=fun hs=>by
  constructor
  ·intro he
   rw [List.eq_nil_iff_forall_not_mem]
   intro j hj
   have hjl:j < l.length:=by
    obtain⟨h1,_⟩:=ready_iff.1 hj
    rwa [h.length] at h1
   have h2:=(h.ready hs (h.olt j hjl)).2 (by rw [h.forth j hjl];exact hj)
   rw [he] at h2
   cases h2
  ·intro he
   rw [List.eq_nil_iff_forall_not_mem]
   intro i hi
   obtain⟨h1,_⟩:=ready_iff.1 hi
   have h2:=(h.ready hs h1).1 hi
   rw [he] at h2
   cases h2
 intro fuel
 induction fuel with
 | zero=>
  intro L L' a w hs hw
  unfold Go.wpAny at hw ⊢
  exact⟨(hnil hs).2 hw.1,hw.2⟩
 | succ fuel ih=>
  intro L L' a w hs hw
  unfold Go.wpAny at hw ⊢
  refine⟨fun he=>hw.1 ((hnil hs).1 he),fun i hi=>?_⟩
  obtain⟨h1,_⟩:=ready_iff.1 hi
  refine h.wpOp h1 (fun a' w' hk=>ih _ _ a' w' ?_ hk) (hw.2 _ ((h.ready hs h1).1 hi))
  refine⟨by simp [hs.s],by simp [hs.s'],fun k hk=>?_⟩
  have h3:=hs.at_ k hk
  by_cases hik:i=k
  ·subst hik
   simp [Array.getD,hs.s,hs.s',hk,h.lt i hk]
  ·have hne:ord.idxOf i≠ord.idxOf k:=fun he=>hik (by rw [← h.back i h1,he,h.back k hk])
   have h4:=h.lt k hk
   simp only [Array.getD,Array.size_setIfInBounds,hs.s,hs.s',hk,h4,dite_true] at h3 ⊢
   rw [Array.getInternal_eq_getElem,Array.getInternal_eq_getElem,Array.getElem_setIfInBounds,Array.getElem_setIfInBounds,if_neg hne,if_neg hik]
   exact h3
theorem ac_perm [hm:Mixed P]{s:Base}{e:Env}{m:List Piece}{gl:List (Nat × AV)}{id:Nat}(ord:List Nat){l':List Oper}(hp:permOK ord l=true)(hl:permL ord l=l')(hg:s.gl=gl)(hc:chkR N l'=true)(ho:Obl P N Q s gl l' l' 0 m e []):AC P N (.region id l.toArray true) Q s e m:=by
 subst hl
 have h:=Perm.of hp
 refine AC.mk fun ok w a hS ha=>wp_region_any hm.out ?_
 have h1:=any_draw hg hc ho hS ha
 have h2:(permL ord l).toArray.size=l.toArray.size:=by simpa using h.length
 rw [h2] at h1
 exact h.wpAny _ _ _ _ _ ⟨by simp,by simp,fun i hi=>by
  have:=h.lt i hi
  simp [Array.getD,hi,this]⟩ h1
theorem run_overlaps_apart2 {P:Program}(w:World)(tS tR e:TypeId)(ht:P.underlying tS=some (.slice e))(size:Nat)(hz:∀ w,(Go.sizeOf e).run P w=.ok size w)
  (a b:Addr) (la ca lb cb:Nat) (hne:a.block≠b.block) (tA tB:TypeId) (kA kB:Nat)
  (hsa:w.shape? a.block=some (tA,kA)) (hsb:w.shape? b.block=some (tB,kB)) (hkA:kA≠0)
  (hfa:w.frozen? b=false) (hfe:w.frozen? { block:=b.block,off:=kB }=false) :
  (Extern.SlicesOverlaps.overlaps #[tS,tS] #[tR] #[.slice (some a) la ca,.slice (some b) lb cb]).run P w=.ok (.bool false) w:=by
 have hnb:(a.block != b.block)=true:=by simpa using hne
 have hnb':(a.block == b.block)=false:=by simpa using hne
 change Sem.run P (α:=Value) (do
  let some t := (#[tS, tS] : Array TypeId)[0]? | stuck "slices.overlaps: no parameter types"
  let .slice elem ← underlying t | stuck "slices.overlaps: slice type expected"
  let size ← sizeOf elem
  match (some a:Option Addr),(some b:Option Addr) with
  | some a,some b=>
   if la=0∨lb=0∨size=0 then pure (Value.bool false)
   else if a.block != b.block && (← frozen a) && (← frozen b) then unsupported .addressObserved
   else do
    if a.block != b.block then do
     noView a;noView b
     if ← mayBeOne a b then return Value.bool ((← choose (.extern "sameAddr.stringBytes" 2)) == 1)
    pure (Value.bool (a.block == b.block && a.off < b.off + lb * size && b.off < a.off + la * size))
  | _,_=>pure (Value.bool false)) w=_
 by_cases h0:la=0∨lb=0∨size=0
 ·simp [run_underlying ht,hz,h0]
 ·cases kA with
  | zero=>exact absurd rfl hkA
  | succ kA=>
   cases hq:w.frozen? a <;> cases hq2:w.frozen? { block:=a.block,off:=kA + 1 } <;>
   simp [run_underlying ht,hz,h0,hnb,hnb',frozen,noView,viewAt,mayBeOne,stringish,shape,Sem.run,hsa,hsb,hfa,hfe,hq,hq2]
theorem run_overlaps_zero {P:Program}(w:World)(tS tR e:TypeId)(ht:P.underlying tS=some (.slice e))(size:Nat)(hz:∀ w,(Go.sizeOf e).run P w=.ok size w)(a b:Addr)(ca lb cb:Nat) :
  (Extern.SlicesOverlaps.overlaps #[tS,tS] #[tR] #[.slice (some a) 0 ca,.slice (some b) lb cb]).run P w=.ok (.bool false) w:=by
 change Sem.run P (α:=Value) (do
  let some t := (#[tS, tS] : Array TypeId)[0]? | stuck "slices.overlaps: no parameter types"
  let .slice elem ← underlying t | stuck "slices.overlaps: slice type expected"
  let size ← sizeOf elem
  match (some a:Option Addr),(some b:Option Addr) with
  | some a,some b=>
   if 0=0∨lb=0∨size=0 then pure (Value.bool false)
   else if a.block != b.block && (← frozen a) && (← frozen b) then unsupported .addressObserved
   else do
    if a.block != b.block then do
     noView a;noView b
     if ← mayBeOne a b then return Value.bool ((← choose (.extern "sameAddr.stringBytes" 2)) == 1)
    pure (Value.bool (a.block == b.block && a.off < b.off + lb * size && b.off < a.off + 0 * size))
  | _,_=>pure (Value.bool false)) w=_
 simp [run_underlying ht,hz]
theorem overlaps_runD {s:Base}{ok:Ok}{m:List Piece}{w:World}{g o n cc c k:Nat}{E tS:TypeId}{b:Nat}{xs ys:List AV}{id:Option Value}{cs:List Value}[t:TyE P tS E k b](tR:TypeId)(hS:St s ok m w)(hm:Piece.buf g E k xs c ∈ m)(hv:RVs ok w [.sl k ys id,.lit (.slice (some ⟨g,o,none⟩) n cc)] cs) :
  (Extern.SlicesOverlaps.overlaps #[tS,tS] #[tR] cs.toArray).run P w=.ok (.bool false) w:=by
 obtain⟨u1,us,rfl,h1,u2,us2,rfl,h2,rfl⟩:=hv
 obtain rfl:=RV0.lit h2
 obtain⟨A,c2,rfl,_,_,_,h5,_⟩:=sl_run (show RV ok w (.sl k ys id) u1 from h1)
 obtain⟨cs1,cs2,a1,a2,a3,a4,a5⟩:=hS.at_ _ hm
 have hk:0 < k:=Nat.le_of_ble_eq_true t.k0
 rcases Nat.eq_zero_or_pos ys.length with h0|h0
 ·rw [h0]
  cases A with
  | none=>
   show Sem.run P (α:=Value) (do
    let some t := (#[tS, tS] : Array TypeId)[0]? | stuck "slices.overlaps: no parameter types"
    let .slice elem ← underlying t | stuck "slices.overlaps: slice type expected"
    let size ← sizeOf elem
    pure (Value.bool false)) w=_
   simp [run_underlying t.l.out,run_sizeOf t.l.size]
  | some a=>exact run_overlaps_zero w tS tR E t.l.out k (fun _=>run_sizeOf t.l.size) a ⟨g,o,none⟩ c2 n cc
 ·obtain⟨b2,o2,es,rfl,e1,e2,e3⟩:=h5 h0
  have hl:0 < es.length:=by rw [e1];exact Nat.mul_pos h0 hk
  have h6:=e2 0 es[0] (by simp [hl])
  have hne:b2≠g:=by
   rintro rfl
   exact hS.own _ hm b2 (o2 + 0) rfl h6.2
  have h7:=h6.1
  unfold World.cell? at h7
  cases hb:w.heap[b2]? with
  | none=>simp [hb] at h7
  | some ob=>
   cases ob with
   | cells C T fr=>
    have hC:C.size≠0:=by
     intro h8
     simp [hb,Array.eq_empty_of_size_eq_zero h8] at h7
    exact run_overlaps_apart2 w tS tR E t.l.out k (fun _=>run_sizeOf t.l.size) ⟨b2,o2,none⟩ ⟨g,o,none⟩ ys.length c2 n cc hne T E C.size (cs1.length + cs2.length) (by simp [World.shape?,hb]) (by simp [World.shape?,a1]) hC (by simp [World.frozen?,a1]) (by simp [World.frozen?,a1])
   | _=>simp [hb] at h7
end Av

namespace Av
open Go Go.RowKit Tw
theorem ImpC.nilT {k:Nat}:ImpC (.lit (.slice none 0 0)) (.sl k [] (some (.slice none 0 0))):=fun ok w cs h=>by
 rw [RC] at h
 rw [RC]
 exact⟨none,0,h.1,by simp,Nat.le_refl _,by simp [maxLen],by simp,by simp⟩
theorem upon_mono {P:Program}{o:Oper}{a:Act}{next next':Act→World→Prop}{Q Q':Exit→Act→World→Prop}{r:Result Go.Next}(hn:∀ a w,next a w→next' a w)(hq:∀ e a w,Q e a w→Q' e a w)(h:o.upon P a next Q r):o.upon P a next' Q' r:=by
 unfold Oper.upon at h ⊢
 split at h
 ·exact hn _ _ h
 ·exact hn _ _ h
 ·exact hn _ _ h
 ·refine Calls.mono h fun x w' hx=>?_
  cases x with
  | returned v=>exact hn _ _ hx
  | panicked c=>exact hq _ _ _ hx
  | outgrown=>exact let ⟨a,w,h⟩:=hx;⟨a,w,hq _ _ _ h⟩
 ·exact Rows.mono h fun v w' hx=>hn _ _ hx
 ·exact hq _ _ _ h
 ·exact h.elim
theorem wpList_mono {P:Program}{ops:Array Oper}{Q Q':Exit→Act→World→Prop}(hq:∀ e a w,Q e a w→Q' e a w):∀ (l:List Oper) (a:Act) (w:World),wpList P ops Q l a w→wpList P ops Q' l a w
 | [],a,w,h=>hq _ _ _ h
 | o::l,a,w,h=>by
  unfold wpList at h ⊢
  split at h
  ·rename_i hw
   rw [if_pos hw]
   rcases h with h|⟨h1,a',w',h2⟩
   ·exact .inl (upon_mono (fun a w=>wpList_mono hq l a w) hq h)
   ·exact .inr ⟨h1,a',w',hq _ _ _ h2⟩
  ·rename_i hw
   rw [if_neg hw]
   exact wpList_mono hq l _ _ h
section
variable {P:Program} {N:Nat} {ops:Array Oper} {Q:Exit→Act→World→Prop} {l:List Oper} {s:Base} {e:Env} {m:List Piece}
theorem ac_midB {c c2:Code}{id:Nat}{Q1:Exit→Act→World→Prop}{α:Type}(I:α→Env)(M:α→List Piece)(h1:AC P N c (Exit.inBlock id (Exit.then (fun a w=>∃ z ok,Sat N ok w (I z) a∧St s ok (M z) w) Q)) s e m)(h2:∀ z,AC P N c2 Q1 s (I z) (M z)):AC P N c (Exit.inBlock id (Exit.then (fun a w=>c2.wp P Q1 a w) Q)) s e m:=AC.mk fun ok w a hS ha=>
 wp_mono (h1.run ok w a hS ha) fun x a' w' hx=>by
  cases x with
  | normal=>obtain⟨z,ok',g1,g2⟩:=hx;exact (h2 z).run _ _ _ g2 g1
  | exit j=>
   by_cases hj:j=id
   ·simp only [Exit.inBlock,hj,if_true] at hx ⊢
    obtain⟨z,ok',g1,g2⟩:=hx
    exact (h2 z).run _ _ _ g2 g1
   ·simp only [Exit.inBlock,hj,if_false] at hx ⊢
    exact hx
  | _=>exact hx
theorem reIKm {fn:Func}{K:AV→List Piece→Prop}{rs:List ResultVar}{vs:List AV}(out:AV)(m':List Piece)(h:Imp (outOf vs) out)(hK:K out m')(hm:m'.Sublist m)(hr:fn.results=rs.toArray:=by exact rfl)(hh:Ress P N s e m rs vs:=by
  repeat (first|exact Av.ress_nil|(apply Av.ress_cons;(first|(apply Av.res_tmp;exact rfl;exact rfl)|(apply Av.res_cell;exact rfl;(repeat (first|exact Av.Has.here|apply Av.Has.there));exact rfl))))):AE N .ret (bodyPost P fn (Back s K)) s e m:=AE.mk fun ok w a hS ha=>by
 have h1:=(ae_ret (K:=fun v m''=>v=outOf vs∧m''=m') (m:=m) hr hh (.inl rfl) ⟨rfl,rfl⟩ hm).run ok w a hS ha
 obtain⟨d,cv,r,v,m'',ok',cv',⟨rfl,rfl⟩,e1,hv,hS'⟩:=h1
 exact⟨d,cv,r,out,m'',ok',cv',hK,e1,h _ _ _ hv,hS'⟩
end
end Av

namespace Av
open Go Go.RowKit Tw
abbrev bytA (l:Bs):List AV:=l.map fun c=>.lit (u8v c)
theorem strCells_eq (l:Bs):Lib.strCells ⟨l.toArray⟩=l.map u8v:=by simp [Lib.strCells,u8v]
theorem RCs_byt {ok:Ok}{w:World}(l:Bs):RCs ok w (bytA l) (l.map u8v):=by
 induction l with
 | nil=>rw [show bytA []=[] from rfl,RCs];rfl
 | cons c l ih=>
  rw [show bytA (c::l)=.lit (u8v c)::bytA l from rfl,RCs]
  exact⟨[u8v c],l.map u8v,rfl,by rw [RC];exact⟨rfl,rfl⟩,ih⟩
theorem byt_sz (l:Bs):∀ x ∈ bytA l,x.size=1:=by
 intro x hx
 obtain⟨c,_,rfl⟩:=List.mem_map.1 hx
 rfl
theorem bytA_len (l:Bs):(bytA l).length=l.length:=List.length_map _
theorem ba_size (l:Bs):(⟨l.toArray⟩:ByteArray).size=l.length:=by simp [ByteArray.size]
section
variable {P:Program} {N:Nat} {ops:Array Oper} {Q:Exit→Act→World→Prop} {rest:List Oper} {s:Base} {e:Env} {m:List Piece} {d:Nat} {ty:TypeId} {pos:String} {af:Array Edge}
theorem al_appendBS {T U E:TypeId}[t:TyE P T E 1 1][tu:TyT P U]{xo yo:Operand}{g n c:Nat}{l:Bs}{xs:List AV}{M:Nat→Nat→List Piece}(h:∀ g' c',n + l.length≤c'→AL P N ops Q s rest ((d,.lit (.slice (some ⟨g',0,none⟩) (n + l.length) c'))::e) (M g' c'))(hx:ev e xo=some (.lit (.slice (some ⟨g,0,none⟩) n c)):=by exact rfl)(hy:ev e yo=some (str l):=by exact rfl)
  (hm:∀ g' c',Upd m (.buf g E 1 xs c) (.buf g' E 1 (xs++bytA l) c') (M g' c'):=by intro g' c';(repeat (first|apply Av.Upd.here|apply Av.Upd.there))) (hn:n=xs.length:=by first|exact rfl|(simp;done)|(simp;omega)) (hnc:n≤c:=by omega)
  (hb:n + l.length≤140737488355328:=by omega) (hd:Nat.blt d N=true:=by exact rfl) :
  AL P N ops Q s (⟨some d,.call ⟨.builtin .append,#[xo,yo],#[T,U]⟩,ty,pos,af,none⟩::rest) e m:=by
 subst hn
 refine al_stepV (fun ok w B hS hB=>?_) hd
 obtain⟨i,z,q1,q2,hzk,hik,hib⟩:=t.zero
 have hg1:=hB.lit hx
 have hg2:=hB.lit hy
 have hs:=ba_size l
 obtain⟨pre,post,hm1,_⟩:=(hm g c).parts
 have hS0:=hS
 rw [hm1] at hS
 obtain⟨cs1,cs2,a1,a2,a3,a4,a5⟩:=hS.at_ (.buf g E 1 xs c) (by simp)
 have hcl:=a2.len a3
 rw [Nat.mul_one] at hcl
 by_cases hroom:xs.length + l.length≤c
 ·obtain⟨pre',post',hm1',hm2'⟩:=(hm g c).parts
  rw [hm1'] at hS0
  obtain⟨w',r1,r2,r3⟩:=St.overB (P:=P) hS0 (RCs_byt l) (byt_sz l) (Nat.le_refl _) (by rw [bytA_len];exact hroom)
  have ho:over xs xs.length (bytA l)=xs++bytA l:=by
   unfold over
   rw [List.take_length,List.drop_of_length_le (by omega),List.append_nil]
  rw [ho] at r2
  have hf:=Lib.run_firstCells_string (P:=P) w i.size ⟨l.toArray⟩
  rw [hs,strCells_eq] at hf
  rw [Nat.mul_one] at r1
  have hr:(Builtin.append_ #[T,U] ty #[.slice (some ⟨g,0,none⟩) xs.length c,.string ⟨l.toArray⟩]).run P w=.ok (.slice (some ⟨g,0,none⟩) (xs.length + l.length) c) w':=by
   simp [Builtin.append_,run_underlying t.l.out,run_underlying tu.out,Go.sizeOf,typeInfo,q1,Builtin.lenOf,hs,hroom,hik,add_mid]
   rw [hik] at hf
   simp [hf,r1]
  exact⟨_,.slice (some ⟨g,0,none⟩) (xs.length + l.length) c,w',ok,_,by simp [execOp,resolve,invoke,builtin,hg1,hg2,hr],RVl rfl,by rw [hm2'];exact r2,r3,h g c hroom⟩
 ·have holds:∀ j v,cs1[j]?=some v→w.cell? ((⟨g,0,none⟩:Addr).add j)=some v:=fun j v hj=>by
   rw [add_mid,cell_of_row _ _ _ _ _ _ a1]
   have hj':j < cs1.length:=(List.getElem?_eq_some_iff.1 hj).1
   simp only [Nat.zero_add,List.getElem?_toArray]
   rw [List.getElem?_append_left hj']
   exact hj
  have hr:=Lib.run_append_grow_string (P:=P) w T U ty E i z t.l.out tu.out q1 q2 ⟨g,0,none⟩ xs.length c cs1 (by rw [hik,Nat.mul_one];exact hcl) holds ⟨l.toArray⟩ (by rw [hs];omega) (by rw [hs];omega) (by rw [hs,hib];exact growslice_fits (by omega) (by omega))
  rw [hs,strCells_eq] at hr
  have hge:=grownCap_ge w (xs.length + l.length) c E
  have hle:=grownCap_le_maxLen w (xs.length + l.length) c E (by simp [maxLen];omega)
  generalize grownCap w (xs.length + l.length) c E=c' at hr hge hle
  obtain⟨pre',post',hm1',hm2'⟩:=(hm w.heap.size c').parts
  have hE:Ext w (w.drew.alloc (.cells (cs1.toArray++(l.map u8v).toArray++Builtin.zeroCells z.cells (c' - (xs.length + l.length))) E)):=Ext.trans' (Ext.drew w) (Ext.alloc w.drew _)
  have hblk:(w.drew.alloc (.cells (cs1.toArray++(l.map u8v).toArray++Builtin.zeroCells z.cells (c' - (xs.length + l.length))) E)).heap[w.heap.size]?=some (.cells ((cs1++l.map u8v)++(Builtin.zeroCells z.cells (c' - (xs.length + l.length))).toList).toArray E (0,0)):=by
   rw [show ((cs1++l.map u8v)++(Builtin.zeroCells z.cells (c' - (xs.length + l.length))).toList).toArray=cs1.toArray++(l.map u8v).toArray++Builtin.zeroCells z.cells (c' - (xs.length + l.length)) by apply Array.ext';simp]
   exact heap_alloc_new w.drew _
  rw [hm1'] at hS0
  have hd:=hS0.less (m':=pre'++post') (by simp)
  obtain⟨ok',r1,r2⟩:=St.newBuf hd hE (by simp) hblk (a2.append (RCs_byt l)) (fun x hx=>(List.mem_append.1 hx).elim (a3 x) (byt_sz l x)) (c:=c') (by
   simp only [List.length_append,Array.length_toList,size_zeroCells,hzk,hcl,List.length_map]
   omega) hle
  exact⟨_,.slice (some ⟨w.heap.size,0,none⟩) (xs.length + l.length) c',_,ok',_,by simp [execOp,resolve,invoke,builtin,hg1,hg2,hr],RVl rfl,by rw [hm2'];exact r1.perm List.perm_middle,r2,h _ _ hge⟩
theorem al_appendNS {T U E:TypeId}[t:TyE P T E 1 1][tu:TyT P U]{xo yo:Operand}{l:Bs}(h:∀ g' c',l.length≤c'→AL P N ops Q s rest ((d,.lit (.slice (some ⟨g',0,none⟩) l.length c'))::e) (.buf g' E 1 (bytA l) c'::m))(hx:ev e xo=some (.lit (.slice none 0 0)):=by exact rfl)(hy:ev e yo=some (str l):=by exact rfl)
  (h0:0 < l.length:=by omega) (hb:l.length≤140737488355328:=by omega) (hd:Nat.blt d N=true:=by exact rfl) :
  AL P N ops Q s (⟨some d,.call ⟨.builtin .append,#[xo,yo],#[T,U]⟩,ty,pos,af,none⟩::rest) e m:=by
 refine al_stepV (fun ok w B hS hB=>?_) hd
 obtain⟨i,z,q1,q2,hzk,hik,hib⟩:=t.zero
 have hg1:=hB.lit hx
 have hg2:=hB.lit hy
 have hs:=ba_size l
 have hr:=run_append_nil_string (P:=P) w T U ty E i z t.l.out tu.out q1 q2 ⟨l.toArray⟩ (by rw [hs];exact h0) (by rw [hs];omega) (by rw [hs,hib];omega)
 have e1:((⟨l.toArray⟩:ByteArray).data.map fun b=>Value.int .u8 b.toNat)=(l.map u8v).toArray:=by apply Array.ext';simp [u8v]
 rw [e1,hs] at hr
 have hge:=grownCap_ge w l.length 0 E
 have hle:=grownCap_le_maxLen w l.length 0 E (by simp [maxLen];omega)
 generalize grownCap w l.length 0 E=c' at hr hge hle
 have hE:Ext w (w.drew.alloc (.cells ((l.map u8v).toArray++Builtin.zeroCells z.cells (c' - l.length)) E)):=Ext.trans' (Ext.drew w) (Ext.alloc w.drew _)
 have hblk:(w.drew.alloc (.cells ((l.map u8v).toArray++Builtin.zeroCells z.cells (c' - l.length)) E)).heap[w.heap.size]?=some (.cells (l.map u8v++(Builtin.zeroCells z.cells (c' - l.length)).toList).toArray E (0,0)):=by
  rw [show (l.map u8v++(Builtin.zeroCells z.cells (c' - l.length)).toList).toArray=(l.map u8v).toArray++Builtin.zeroCells z.cells (c' - l.length) by apply Array.ext';simp]
  exact heap_alloc_new w.drew _
 obtain⟨ok',r1,r2⟩:=St.newBuf hS hE (by simp) hblk (RCs_byt l) (byt_sz l) (c:=c') (by
  simp only [Array.length_toList,size_zeroCells,hzk,List.length_map]
  omega) hle
 exact⟨_,.slice (some ⟨w.heap.size,0,none⟩) l.length c',_,ok',_,by simp [execOp,resolve,invoke,builtin,hg1,hg2,hr],RVl rfl,r1,r2,h _ _ hge⟩
theorem al_appendNE {T U E:TypeId}[t:TyE P T E 1 1][tu:TyT P U]{xo yo:Operand}(h:AL P N ops Q s rest ((d,.lit (.slice none 0 0))::e) m)(hx:ev e xo=some (.lit (.slice none 0 0)):=by exact rfl)(hy:ev e yo=some (str []):=by exact rfl)(hd:Nat.blt d N=true:=by exact rfl) :
  AL P N ops Q s (⟨some d,.call ⟨.builtin .append,#[xo,yo],#[T,U]⟩,ty,pos,af,none⟩::rest) e m:=
 al_lit rfl (fun ok w B hB=>by
  obtain⟨i,z,q1,q2,hzk,hik,hib⟩:=t.zero
  have hf:=Lib.run_firstCells_string (P:=P) w i.size ⟨#[]⟩
  have hr:(Builtin.append_ #[T,U] ty #[.slice none 0 0,.string ⟨#[]⟩]).run P w=.ok (.slice none 0 0) w:=by
   have hs:(⟨#[]⟩:ByteArray).size=0:=rfl
   rw [hs] at hf
   simp [Builtin.append_,run_underlying t.l.out,run_underlying tu.out,Go.sizeOf,typeInfo,q1,Builtin.lenOf,hs,hf]
  simp [execOp,resolve,invoke,builtin,hB.lit hx,hB.lit hy,hr]) hd h
theorem al_toUnsafe {S D t:TypeId}{j:TypeInfo}{x:Operand}{g n:Nat}{T0:TypeId}{ps:List AV}(hs:P.underlying S=some (.pointer t))(hD:P.underlying D=some .unsafePointer)(hi:P.info? t=some j)(hj:j.size≠0)(hn:0 < n)(h:AL P N ops Q s rest ((d,.lit (.pointer (some ⟨g,0,none⟩)))::e) m)(hx:ev e x=some (.lit (.pointer (some ⟨g,0,none⟩))):=by exact rfl)
  (hm:Has m (.var g T0 (.agg n ps)):=by (repeat (first|exact Av.Has.here|apply Av.Has.there))) (hd:Nat.blt d N=true:=by exact rfl):AL P N ops Q s (⟨some d,.convert S D x,ty,pos,af,none⟩::rest) e m:=
 al_val (v:=.lit (.pointer (some ⟨g,0,none⟩))) (fun ok w a hS hA=>by
  obtain⟨cs,h1,h2⟩:=hS.at_ _ hm.mem
  rw [RC] at h2
  have hsh:w.shape? g=some (T0,n):=by simp [World.shape?,h1,h2.1]
  exact⟨_,by simp [execOp,hA.lit hx,Lib.run_to_unsafe w ⟨g,0,none⟩ hs hD hi hj hsh hn],RVl rfl⟩) hd h
theorem al_fromUnsafe {S D u:TypeId}{j:TypeInfo}{x:Operand}{g n:Nat}{T0:TypeId}{ps:List AV}(hs:P.underlying S=some .unsafePointer)(hD:P.underlying D=some (.pointer u))(hi:P.info? u=some j)(hl:liesAt P P.depth T0 (n / P.cellsOf T0) 0 u 1=true)(h:AL P N ops Q s rest ((d,.lit (.pointer (some ⟨g,0,none⟩)))::e) m)(hx:ev e x=some (.lit (.pointer (some ⟨g,0,none⟩))):=by exact rfl)
  (hm:Has m (.var g T0 (.agg n ps)):=by (repeat (first|exact Av.Has.here|apply Av.Has.there))) (hd:Nat.blt d N=true:=by exact rfl):AL P N ops Q s (⟨some d,.convert S D x,ty,pos,af,none⟩::rest) e m:=
 al_val (v:=.lit (.pointer (some ⟨g,0,none⟩))) (fun ok w a hS hA=>by
  obtain⟨cs,h1,h2⟩:=hS.at_ _ hm.mem
  rw [RC] at h2
  have hsh:w.shape? g=some (T0,n):=by simp [World.shape?,h1,h2.1]
  exact⟨_,by simp [execOp,hA.lit hx,Lib.run_from_unsafe w ⟨g,0,none⟩ hs hD hi hsh hl],RVl rfl⟩) hd h
theorem al_ptrSame {T yT E:TypeId}{j:TypeInfo}{x y:Operand}{p:Addr}(hp:P.underlying T=some (.pointer E))(hi:P.info? E=some j)(h:AL P N ops Q s rest ((d,boo false)::e) m)(hx:ev e x=some (.lit (.pointer (some p))):=by exact rfl)(hy:ev e y=some (.lit (.pointer (some p))):=by exact rfl)(hd:Nat.blt d N=true:=by exact rfl) :
  AL P N ops Q s (⟨some d,.binOp .neq T x y yT,ty,pos,af,none⟩::rest) e m:=
 al_lit rfl (fun ok w a ha=>by
  have hg:(eqGuard .neq T x y (.pointer (some p)) (.pointer (some p))).run P w=.ok () w:=by
   unfold eqGuard
   split <;> rfl
  simp [execOp,ha.lit hx,ha.lit hy,hg,Lib.run_neq_ptr_same w p hp hi]) hd h
theorem al_sliceData {T:TypeId}{x:Operand}{g n c:Nat}(h:AL P N ops Q s rest ((d,.lit (.pointer (some ⟨g,0,none⟩)))::e) m)(hc:c≠0)(hx:ev e x=some (.lit (.slice (some ⟨g,0,none⟩) n c)):=by exact rfl)(hd:Nat.blt d N=true:=by exact rfl) :
  AL P N ops Q s (⟨some d,.call ⟨.builtin .unsafeSliceData,#[x],#[T]⟩,ty,pos,af,none⟩::rest) e m:=
 al_lit rfl (fun ok w a ha=>by simp [execOp,resolve,invoke,builtin,ha.lit hx,Lib.run_unsafeSliceData_row w _ _ _ _ _ hc]) hd h
theorem al_sliceDataN {T:TypeId}{x:Operand}(h:AL P N ops Q s rest ((d,.lit (.pointer none))::e) m)(hx:ev e x=some (.lit (.slice none 0 0)):=by exact rfl)(hd:Nat.blt d N=true:=by exact rfl) :
  AL P N ops Q s (⟨some d,.call ⟨.builtin .unsafeSliceData,#[x],#[T]⟩,ty,pos,af,none⟩::rest) e m:=
 al_lit rfl (fun ok w a ha=>by simp [execOp,resolve,invoke,builtin,ha.lit hx,Lib.run_unsafeSliceData_nil]) hd h
theorem al_unsafeStrN {T U:TypeId}{x y:Operand}(h:AL P N ops Q s rest ((d,str [])::e) m)(hx:ev e x=some (.lit (.pointer none)):=by exact rfl)(hy:ev e y=some (int 0):=by exact rfl)(hd:Nat.blt d N=true:=by exact rfl) :
  AL P N ops Q s (⟨some d,.call ⟨.builtin .unsafeString,#[x,y],#[T,U]⟩,ty,pos,af,none⟩::rest) e m:=
 al_lit rfl (fun ok w a ha=>by simp [execOp,resolve,invoke,builtin,ha.lit hx,ha.lit hy,Lib.run_unsafeString_none];rfl) hd h
theorem freeze_heap (w:World)(a:Addr)(n b:Nat)(h:b≠a.block):(w.freeze a n).heap[b]?=w.heap[b]?:=by
 unfold World.freeze
 split
 ·rfl
 ·simp only [Array.getElem?_modify]
  rw [if_neg (fun e=>h e.symm)]
theorem freeze_cell (w:World)(a:Addr)(n b j:Nat):(w.freeze a n).cell? ⟨b,j,none⟩=w.cell? ⟨b,j,none⟩:=by
 by_cases hb:b=a.block
 ·unfold World.freeze
  split
  ·rfl
  ·simp only [World.cell?,Array.getElem?_modify,hb,if_true]
   cases hh:w.heap[a.block]? with
   | none=>rfl
   | some o=>cases o <;> rfl
 ·exact cell_block (freeze_heap w a n b hb)
theorem freeze_rest (w:World)(a:Addr)(n:Nat):(w.freeze a n).heap.size=w.heap.size∧(w.freeze a n).os=w.os∧(w.freeze a n).tape=w.tape∧(w.freeze a n).output=w.output:=by
 unfold World.freeze
 split
 ·exact⟨rfl,rfl,rfl,rfl⟩
 ·exact⟨by simp,rfl,rfl,rfl⟩
theorem al_unsafeStr {T U E:TypeId}{x y:Operand}{g c:Nat}{l:Bs}{m':List Piece}(hp:P.underlying T=some (.pointer E))(hc:P.cellsOf E=1)(h0:l≠[])(h:AL P N ops Q s rest ((d,str l)::e) m')(hx:ev e x=some (.lit (.pointer (some ⟨g,0,none⟩))):=by exact rfl)(hy:ev e y=some (int l.length):=by exact rfl)
  (hm:Upd m (.buf g E 1 (bytA l) c) (.tail E 1 (.slice none 0 0)) m':=by (repeat (first|apply Av.Upd.here|apply Av.Upd.there))) (hl:l.length≤9223372036854775807:=by omega) (hd:Nat.blt d N=true:=by exact rfl) :
  AL P N ops Q s (⟨some d,.call ⟨.builtin .unsafeString,#[x,y],#[T,U]⟩,ty,pos,af,none⟩::rest) e m:=by
 refine al_step (v:=str l) (fun ok w a hS ha=>?_) hd
 obtain⟨pre,post,rfl,rfl⟩:=hm.parts
 obtain⟨cs1,cs2,h1,h2,h3,h4,h5⟩:=hS.at_ (.buf g E 1 (bytA l) c) (by simp)
 have hcs:cs1=l.map u8v:=RCs_u8_eq h2
 subst hcs
 have hsh:w.shape? g=some (E,(l.map u8v++cs2).length):=by simp [World.shape?,h1]
 have hr:=Lib.run_unsafeString_row (P:=P) w T U ty E hp hc g _ hsh l h0 (by simp) hl (fun j x hj=>by
  rw [add_mid,cell_of_row _ _ _ _ _ _ h1]
  have hj':j < (l.map u8v).length:=by simpa using (List.getElem?_eq_some_iff.1 hj).1
  simp only [Nat.zero_add,List.getElem?_toArray]
  rw [List.getElem?_append_left hj',List.getElem?_map,hj]
  rfl)
 have hst:Stp ok w ok (w.freeze ⟨g,0,none⟩ l.length):=⟨by rw [(freeze_rest _ _ _).1];exact Nat.le_refl _,fun b j v g1 g2=>⟨by rw [freeze_cell];exact g1,g2⟩⟩
 obtain⟨f1,f2,f3,f4⟩:=freeze_rest w ⟨g,0,none⟩ l.length
 refine⟨.string ⟨l.toArray⟩,_,ok,_,by simp [execOp,resolve,invoke,builtin,ha.lit hx,ha.lit hy,hr],RVl rfl,?_,hst,h⟩
 refine hS.write (g:=g) (p':=.tail E 1 (.slice none 0 0)) rfl (.inr rfl) hst (.inl ⟨none,0,rfl⟩) (fun b j hb=>?_) f1 f2 f3 f4 (fun b hne=>freeze_heap w _ _ b hne) (fun _ _ _=>Iff.rfl)
 obtain⟨a,n',c',he,hne,_⟩:=hb
 injection he with _ h1 h2
 omega
end
end Av
