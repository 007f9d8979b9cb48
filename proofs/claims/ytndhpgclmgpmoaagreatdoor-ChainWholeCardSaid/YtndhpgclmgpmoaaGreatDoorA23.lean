/- chapter 6 in plain words: a disk -/
import Derived.Test.YtndhpgclmgpmoaaGreatDoorA22
namespace Av
open Go Go.RowKit Tw
def reEdge (ord:List Nat)(o:Oper):Oper:={ o with after:=o.after.map (fun e=>{ e with on:=ord.idxOf e.on }),guard:=o.guard.map fun g=>(ord.idxOf g.1,g.2) }
def permL (ord:List Nat)(l:List Oper):List Oper:=ord.map fun i=>reEdge ord (l.getD i default)
def permOK (ord:List Nat)(l:List Oper):Bool:=Nat.beq ord.length l.length && (List.range l.length).all (fun i=>Nat.blt (ord.idxOf i) l.length && Nat.beq (ord.idxOf (ord.getD i 0)) i && Nat.blt (ord.getD i 0) l.length && Nat.beq (ord.getD (ord.idxOf i) 0) i) &&
 l.all fun o=>o.after.toList.all (fun e=>Nat.blt e.on l.length) && (match o.guard with|some g=>Nat.blt g.1 l.length|none=>true)
structure Perm (ord:List Nat)(l:List Oper):Prop where
 len:ord.length=l.length
 lt:∀ i,i < l.length->ord.idxOf i < l.length
 back:∀ i,i < l.length->ord.getD (ord.idxOf i) 0=i
 olt:∀ j,j < l.length->ord.getD j 0 < l.length
 forth:∀ j,j < l.length->ord.idxOf (ord.getD j 0)=j
 edge:∀ o ∈ l,∀ e ∈ o.after.toList,e.on < l.length
 gd:∀ o ∈ l,∀ g,o.guard=some g->g.1 < l.length
theorem Perm.of {ord:List Nat}{l:List Oper}(h:permOK ord l=true):Perm ord l:=by
 unfold permOK at h
 simp only [Bool.and_eq_true] at h
 obtain⟨⟨h1,h2⟩,h3⟩:=h
 have h2':∀ i,i < l.length->((Nat.blt (ord.idxOf i) l.length=true/\Nat.beq (ord.idxOf (ord.getD i 0)) i=true)/\Nat.blt (ord.getD i 0) l.length=true)/\Nat.beq (ord.getD (ord.idxOf i) 0) i=true:=fun i hi=>by
  have:=List.all_eq_true.1 h2 i (List.mem_range.2 hi)
  simpa only [Bool.and_eq_true] using this
 have h3':∀ o ∈ l,o.after.toList.all (fun e=>Nat.blt e.on l.length)=true/\(match o.guard with|some g=>Nat.blt g.1 l.length|none=>true)=true:=fun o ho=>by
  have:=List.all_eq_true.1 h3 o ho
  simpa only [Bool.and_eq_true] using this
 refine⟨Nat.eq_of_beq_eq_true h1,fun i hi=>by simpa [Nat.blt_eq] using (h2' i hi).1.1.1,fun i hi=>Nat.eq_of_beq_eq_true (h2' i hi).2,fun i hi=>by simpa [Nat.blt_eq] using (h2' i hi).1.2,fun i hi=>Nat.eq_of_beq_eq_true (h2' i hi).1.1.2,fun o ho e he=>?_,fun o ho g hg=>?_⟩
 ·simpa [Nat.blt_eq] using List.all_eq_true.1 (h3' o ho).1 e he
 ·have:=(h3' o ho).2
  rw [hg] at this
  simpa [Nat.blt_eq] using this
variable {P:Program} {N:Nat} {Q:Exit->Act->World->Prop} {ord:List Nat} {l:List Oper}
theorem Perm.at_ (h:Perm ord l){j:Nat}(hj:j < l.length):(permL ord l)[j]?=some (reEdge ord (l[ord.getD j 0]'(h.olt j hj))):=by
 have hj2:j < ord.length:=by rw [h.len];exact hj
 have hg:ord.getD j 0=ord[j]:=by simp [List.getD,hj2]
 have hlt:=h.olt j hj
 unfold permL
 rw [List.getElem?_map,List.getElem?_eq_getElem hj2,Option.map_some]
 simp only [hg]
 rw [hg] at hlt
 simp [List.getD,hlt]
theorem Perm.length (h:Perm ord l):(permL ord l).length=l.length:=by simp [permL,h.len]
theorem ready_iff {ops:List Oper}{listed:Array Bool}{i:Nat}:i ∈ Region.ready .any ops.toArray listed↔∃ h:i < ops.length,listed.getD i true=false/\∀ e ∈ ops[i].after.toList,(Region.binds .any e=false\/listed.getD e.on false=true):=by
 unfold Region.ready
 rw [List.mem_filter,List.mem_range]
 constructor
 ·rintro⟨h1,h2⟩
  have h1':i < ops.length:=by simpa using h1
  refine⟨h1',?_⟩
  simp only [List.getElem?_toArray,List.getElem?_eq_getElem h1',Option.map_some,Option.getD_some,Bool.and_eq_true,Bool.not_eq_true'] at h2
  refine⟨h2.1,fun e he=>?_⟩
  have h3:=h2.2
  rw [<- Array.all_toList] at h3
  have:=List.all_eq_true.1 h3 e he
  simpa [Bool.or_eq_true] using this
 ·rintro⟨h1,h2,h3⟩
  refine⟨by simpa using h1,?_⟩
  simp only [List.getElem?_toArray,List.getElem?_eq_getElem h1,Option.map_some,Option.getD_some,Bool.and_eq_true,Bool.not_eq_true']
  refine⟨h2,?_⟩
  rw [<- Array.all_toList]
  refine List.all_eq_true.2 fun e he=>?_
  have:=h3 e he
  simpa [Bool.or_eq_true] using this
structure Same (ord:List Nat)(n:Nat)(L L':Array Bool):Prop where
 s:L.size=n
 s':L'.size=n
 at_:∀ i,i < n->L'.getD (ord.idxOf i) true=L.getD i true
theorem getD_any {L:Array Bool}{i:Nat}(h:i < L.size)(a b:Bool):L.getD i a=L.getD i b:=by simp [Array.getD,h]
theorem Perm.ready (h:Perm ord l){L L':Array Bool}(hs:Same ord l.length L L'){i:Nat}(hi:i < l.length):i ∈ Region.ready .any l.toArray L↔ord.idxOf i ∈ Region.ready .any (permL ord l).toArray L':=by
 have hp:=h.at_ (h.lt i hi)
 have hb:=h.back i hi
 have hlt':ord.idxOf i < (permL ord l).length:=by rw [h.length];exact h.lt i hi
 have he:(permL ord l)[ord.idxOf i]=reEdge ord l[i]:=by
  rw [List.getElem?_eq_getElem hlt'] at hp
  injection hp with hp
  rw [hp]
  simp only [hb]
 rw [ready_iff,ready_iff]
 have hm:l[i] ∈ l:=List.getElem_mem hi
 have hon:∀ e ∈ l[i].after.toList,L'.getD (ord.idxOf e.on) false=L.getD e.on false:=fun e h2=>by
  have h3:=h.edge _ hm e h2
  have:=hs.at_ e.on h3
  rwa [getD_any (by rw [hs.s'];exact h.lt _ h3) true false,getD_any (by rw [hs.s];exact h3) true false] at this
 have haft:((reEdge ord l[i]).after).toList=l[i].after.toList.map fun e=>{ e with on:=ord.idxOf e.on }:=by simp [reEdge]
 constructor
 ·rintro⟨_,h1,h2⟩
  refine⟨hlt',(hs.at_ i hi).trans h1,fun e' he'=>?_⟩
  rw [he,haft] at he'
  obtain⟨e,hm2,rfl⟩:=List.mem_map.1 he'
  rcases h2 e hm2 with h3|h3
  ·exact .inl h3
  ·exact .inr ((hon e hm2).trans h3)
 ·rintro⟨_,h1,h2⟩
  refine⟨hi,(hs.at_ i hi).symm.trans h1,fun e hm2=>?_⟩
  have h4:({ e with on:=ord.idxOf e.on }:Edge) ∈ (permL ord l)[ord.idxOf i].after.toList:=by
   rw [he,haft]
   exact List.mem_map.2 ⟨e,hm2,rfl⟩
  rcases h2 _ h4 with h3|h3
  ·exact .inl h3
  ·exact .inr ((hon e hm2).symm.trans h3)
theorem Perm.yielded (h:Perm ord l){g:Nat}(hg:g < l.length)(t:Array Value):yielded (permL ord l).toArray t (ord.idxOf g)=Go.yielded l.toArray t g:=by
 unfold Go.yielded
 have e1:(permL ord l).toArray[ord.idxOf g]?=some (reEdge ord l[g]):=by
  rw [List.getElem?_toArray,h.at_ (h.lt g hg)]
  simp only [h.back g hg]
 have e2:l.toArray[g]?=some l[g]:=by rw [List.getElem?_toArray,List.getElem?_eq_getElem hg]
 rw [e1,e2]
 rfl
theorem Perm.wpOp (h:Perm ord l){i:Nat}(hi:i < l.length){K K':Act->World->Prop}(hk:∀ a w,K' a w->K a w){a:Act}{w:World}(hw:wpOp P (permL ord l).toArray Q (ord.idxOf i) K' a w):Go.wpOp P l.toArray Q i K a w:=by
 unfold Go.wpOp at hw ⊢
 have e1:(permL ord l).toArray[ord.idxOf i]?=some (reEdge ord l[i]):=by
  rw [List.getElem?_toArray,h.at_ (h.lt i hi)]
  simp only [h.back i hi]
 have e2:l.toArray[i]?=some l[i]:=by rw [List.getElem?_toArray,List.getElem?_eq_getElem hi]
 rw [e1] at hw
 rw [e2]
 simp only at hw ⊢
 have e3:Region.wanted (reEdge ord l[i]) (Go.yielded (permL ord l).toArray a.tmps)=Region.wanted l[i] (Go.yielded l.toArray a.tmps):=by
  unfold Region.wanted
  have hgd:=h.gd l[i] (List.getElem_mem hi)
  cases hg:l[i].guard with
  | none=>simp [reEdge,hg]
  | some g=>
   have:=h.yielded (hgd g hg) a.tmps
   simp [reEdge,hg,this]
 rw [e3] at hw
 split
 ·rename_i hc
  rw [if_pos hc] at hw
  rcases hw with h1|h1
  ·exact .inl (Oper.wp_mono hk h1)
  ·exact .inr h1
 ·rename_i hc
  rw [if_neg hc] at hw
  exact hk _ _ hw
theorem Perm.wpAny (h:Perm ord l):∀ (fuel:Nat) (L L':Array Bool) (a:Act) (w:World),Same ord l.length L L'->Go.wpAny P .any (permL ord l).toArray Q fuel L' a w->Go.wpAny P .any l.toArray Q fuel L a w:=by
 have hnil:∀ {L L':Array Bool},Same ord l.length L L'->(Region.ready .any l.toArray L=[]↔Region.ready .any (permL ord l).toArray L'=[]):=fun hs=>by
  constructor
  ·intro he
   rw [List.eq_nil_iff_forall_not_mem]
   intro j hj
   have hjl:j < l.length:=by
    obtain⟨h1,_⟩:=ready_iff.1 hj
    rwa [h.length] at h1
   have h2:=(h.ready hs (h.olt j hjl)).2 (by rw [h.forth j hjl];exact hj)
   rw [he] at h2
   cases h2
  ·intro he
   rw [List.eq_nil_iff_forall_not_mem]
   intro i hi
   obtain⟨h1,_⟩:=ready_iff.1 hi
   have h2:=(h.ready hs h1).1 hi
   rw [he] at h2
   cases h2
 intro fuel
 induction fuel with
 | zero=>
  intro L L' a w hs hw
  unfold Go.wpAny at hw ⊢
  exact⟨(hnil hs).2 hw.1,hw.2⟩
 | succ fuel ih=>
  intro L L' a w hs hw
  unfold Go.wpAny at hw ⊢
  refine⟨fun he=>hw.1 ((hnil hs).1 he),fun i hi=>?_⟩
  obtain⟨h1,_⟩:=ready_iff.1 hi
  refine h.wpOp h1 (fun a' w' hk=>ih _ _ a' w' ?_ hk) (hw.2 _ ((h.ready hs h1).1 hi))
  refine⟨by simp [hs.s],by simp [hs.s'],fun k hk=>?_⟩
  have h3:=hs.at_ k hk
  by_cases hik:i=k
  ·subst hik
   simp [Array.getD,hs.s,hs.s',hk,h.lt i hk]
  ·have hne:ord.idxOf i≠ord.idxOf k:=fun he=>hik (by rw [<- h.back i h1,he,h.back k hk])
   have h4:=h.lt k hk
   simp only [Array.getD,Array.size_setIfInBounds,hs.s,hs.s',hk,h4,dite_true] at h3 ⊢
   rw [Array.getInternal_eq_getElem,Array.getInternal_eq_getElem,Array.getElem_setIfInBounds,Array.getElem_setIfInBounds,if_neg hne,if_neg hik]
   exact h3
theorem ac_perm [hm:Mixed P]{s:Base}{e:Env}{m:List Piece}{gl:List (Nat × AV)}{id:Nat}(ord:List Nat){l':List Oper}(hp:permOK ord l=true)(hl:permL ord l=l')(hg:s.gl=gl)(hc:chkR N l'=true)(ho:Obl P N Q s gl l' l' 0 m e []):AC P N (.region id l.toArray true) Q s e m:=by
 subst hl
 have h:=Perm.of hp
 refine AC.mk fun ok w a hS ha=>wp_region_any hm.out ?_
 have h1:=any_draw hg hc ho hS ha
 have h2:(permL ord l).toArray.size=l.toArray.size:=by simpa using h.length
 rw [h2] at h1
 exact h.wpAny _ _ _ _ _ ⟨by simp,by simp,fun i hi=>by
  have:=h.lt i hi
  simp [Array.getD,hi,this]⟩ h1
end Av

namespace Av
open Go Go.RowKit Tw
theorem ImpC.nilT {k:Nat}:ImpC (.lit (.slice none 0 0)) (.sl k [] (some (.slice none 0 0))):=fun ok w cs h=>by
 rw [RC] at h
 rw [RC]
 exact⟨none,0,h.1,by simp,Nat.le_refl _,by simp [maxLen],by simp,by simp⟩
theorem upon_mono {P:Program}{o:Oper}{a:Act}{next next':Act->World->Prop}{Q Q':Exit->Act->World->Prop}{r:Result Go.Next}(hn:∀ a w,next a w->next' a w)(hq:∀ e a w,Q e a w->Q' e a w)(h:o.upon P a next Q r):o.upon P a next' Q' r:=by
 unfold Oper.upon at h ⊢
 split at h
 ·exact hn _ _ h
 ·exact hn _ _ h
 ·exact hn _ _ h
 ·refine Calls.mono h fun x w' hx=>?_
  cases x with
  | returned v=>exact hn _ _ hx
  | panicked c=>exact hq _ _ _ hx
  | outgrown=>exact let ⟨a,w,h⟩:=hx;⟨a,w,hq _ _ _ h⟩
 ·exact Rows.mono h fun v w' hx=>hn _ _ hx
 ·exact hq _ _ _ h
 ·exact h.elim
theorem wpList_mono {P:Program}{ops:Array Oper}{Q Q':Exit->Act->World->Prop}(hq:∀ e a w,Q e a w->Q' e a w):∀ (l:List Oper) (a:Act) (w:World),wpList P ops Q l a w->wpList P ops Q' l a w
 | [],a,w,h=>hq _ _ _ h
 | o::l,a,w,h=>by
  unfold wpList at h ⊢
  split at h
  ·rename_i hw
   rw [if_pos hw]
   rcases h with h|⟨h1,a',w',h2⟩
   ·exact .inl (upon_mono (fun a w=>wpList_mono hq l a w) hq h)
   ·exact .inr ⟨h1,a',w',hq _ _ _ h2⟩
  ·rename_i hw
   rw [if_neg hw]
   exact wpList_mono hq l _ _ h
section
variable {P:Program} {N:Nat} {ops:Array Oper} {Q:Exit->Act->World->Prop} {l:List Oper} {s:Base} {e:Env} {m:List Piece}
theorem ac_midB {c c2:Code}{id:Nat}{Q1:Exit->Act->World->Prop}{α:Type}(I:α->Env)(M:α->List Piece)(h1:AC P N c (Exit.inBlock id (Exit.then (fun a w=>∃ z ok,Sat N ok w (I z) a/\St s ok (M z) w) Q)) s e m)(h2:∀ z,AC P N c2 Q1 s (I z) (M z)):AC P N c (Exit.inBlock id (Exit.then (fun a w=>c2.wp P Q1 a w) Q)) s e m:=AC.mk fun ok w a hS ha=>
 wp_mono (h1.run ok w a hS ha) fun x a' w' hx=>by
  cases x with
  | normal=>obtain⟨z,ok',g1,g2⟩:=hx;exact (h2 z).run _ _ _ g2 g1
  | exit j=>
   by_cases hj:j=id
   ·simp only [Exit.inBlock,hj,if_true] at hx ⊢
    obtain⟨z,ok',g1,g2⟩:=hx
    exact (h2 z).run _ _ _ g2 g1
   ·simp only [Exit.inBlock,hj,if_false] at hx ⊢
    exact hx
  | _=>exact hx
theorem reIKm {fn:Func}{K:AV->List Piece->Prop}{rs:List ResultVar}{vs:List AV}(out:AV)(m':List Piece)(h:Imp (outOf vs) out)(hK:K out m')(hm:m'.Sublist m)(hr:fn.results=rs.toArray:=by exact rfl)(hh:Ress P N s e m rs vs:=by
  repeat (first|exact Av.ress_nil|(apply Av.ress_cons;(first|(apply Av.res_tmp;exact rfl;exact rfl)|(apply Av.res_cell;exact rfl;(repeat (first|exact Av.Has.here|apply Av.Has.there));exact rfl))))):AE N .ret (bodyPost P fn (Back s K)) s e m:=AE.mk fun ok w a hS ha=>by
 have h1:=(ae_ret (K:=fun v m''=>v=outOf vs/\m''=m') (m:=m) hr hh (.inl rfl) ⟨rfl,rfl⟩ hm).run ok w a hS ha
 obtain⟨d,cv,r,v,m'',ok',cv',⟨rfl,rfl⟩,e1,hv,hS'⟩:=h1
 exact⟨d,cv,r,out,m'',ok',cv',hK,e1,h _ _ _ hv,hS'⟩
end

def runeAt (l:Bs)(i:Nat):Nat × Nat:=Utf8.decode ⟨l.toArray⟩ i
theorem get_sv (l:Bs)(i:Nat):(⟨l.toArray⟩:ByteArray).get! i=l.getD i 0:=by
 show (l.toArray)[i]! = _
 simp [List.getD]
 rfl
theorem rune_cases {l:Bs}{i:Nat}(hi:i < l.length):1<=(runeAt l i).2/\i + (runeAt l i).2<=l.length /\
  (((l.getD i 0).toNat < 128/\(runeAt l i).1=(l.getD i 0).toNat/\(runeAt l i).2=1)\/(128<=(l.getD i 0).toNat/\128<=(runeAt l i).1/\∀ k,0 < k->k < (runeAt l i).2->128<=(l.getD (i + k) 0).toNat)):=by
 unfold runeAt Utf8.decode
 simp only [get_sv,size_sv,Nat.add_zero,Utf8.runeError]
 have hb:=UInt8.toNat_lt (l.getD i 0)
 generalize (l.getD i 0).toNat=b0 at *
 have key:∀ k,(l.getD (i + k) 0).toNat=(l.getD (i + k) 0).toNat:=fun _=>rfl
 split
 ·rename_i h
  exact⟨by omega,by omega,.inl ⟨h,rfl,rfl⟩⟩
 ·rename_i h
  have one:∀ c:Nat,128<=c->1<=(c,1).2/\i + (c,1).2<=l.length/\((b0 < 128/\(c,1).1=b0/\(c,1).2=1)\/(128<=b0/\128<=(c,1).1/\∀ k,0 < k->k < (c,1).2->128<=(l.getD (i + k) 0).toNat)):=
   fun c hc=>⟨Nat.le_refl _,by simp only;omega,.inr ⟨by omega,hc,fun k h1 h2=>by simp only at h2;omega⟩⟩
  split
  ·rename_i h1
   simp only [Bool.and_eq_true,decide_eq_true_eq,beq_iff_eq] at h1
   obtain⟨h1,h2,h3⟩:=h1
   split
   ·rename_i h4
    refine⟨by simp only;omega,by simp only;omega,.inr ⟨by omega,by simp only;omega,fun k g1 g2=>?_⟩⟩
    simp only at g2
    obtain rfl:k=1:=by omega
    omega
   ·exact one _ (by decide)
  ·split
   ·rename_i h1
    simp only [Bool.and_eq_true,decide_eq_true_eq,beq_iff_eq] at h1
    obtain⟨⟨h1,h2,h3⟩,h4,h5⟩:=h1
    split
    ·rename_i h6
     simp only [Bool.and_eq_true,decide_eq_true_eq,ge_iff_le] at h6
     refine⟨by simp only;omega,by simp only;omega,.inr ⟨by omega,by simp only;omega,fun k g1 g2=>?_⟩⟩
     simp only at g2
     rcases (by omega:k=1\/k=2) with rfl|rfl <;> omega
    ·exact one _ (by decide)
   ·split
    ·rename_i h1
     simp only [Bool.and_eq_true,decide_eq_true_eq,beq_iff_eq] at h1
     obtain⟨⟨⟨h1,h2,h3⟩,h4,h5⟩,h6,h7⟩:=h1
     split
     ·rename_i h8
      simp only [Bool.and_eq_true,decide_eq_true_eq,ge_iff_le] at h8
      refine⟨by simp only;omega,by simp only;omega,.inr ⟨by omega,by simp only;omega,fun k g1 g2=>?_⟩⟩
      simp only at g2
      rcases (by omega:k=1\/k=2\/k=3) with rfl|rfl|rfl <;> omega
     ·exact one _ (by decide)
    ·exact one _ (by decide)
theorem rune_byte {l:Bs}{i c:Nat}(hi:i < l.length)(hc:c < 128):((runeAt l i).1=c↔(l.getD i 0).toNat=c)/\((runeAt l i).1≠c->∀ j,i<=j->j < i + (runeAt l i).2->(l.getD j 0).toNat≠c):=by
 obtain⟨h1,h2,h3⟩:=rune_cases hi
 rcases h3 with⟨h3,h4,h5⟩|⟨h3,h4,h5⟩
 ·refine⟨by omega,fun hne j g1 g2=>?_⟩
  obtain rfl:j=i:=by omega
  omega
 ·refine⟨by omega,fun hne j g1 g2=>?_⟩
  by_cases hj:j=i
  ·subst hj;omega
  ·have:=h5 (j - i) (by omega) (by omega)
   rw [show i + (j - i)=j by omega] at this
   omega
section
variable {P:Program} {N:Nat} {ops:Array Oper} {Q:Exit->Act->World->Prop} {rest:List Oper} {s:Base} {e:Env} {m:List Piece} {d:Nat} {ty:TypeId} {pos:String} {af:Array Edge}
theorem St.newObj {ok:Ok}{w:World}(h:St s ok m w){o:Obj}(ho:Obj.notCells o=true):∃ ok',St s ok' (.obj w.heap.size o::m) (w.alloc o)/\Stp ok w ok' (w.alloc o):=by
 have hk:∀ b j,b < w.heap.size->((ok b j/\b≠w.heap.size)↔ok b j):=fun b j hb=>⟨fun h=>h.1,fun h=>⟨h,by omega⟩⟩
 have hnew:(w.alloc o).heap[w.heap.size]?=some o:=by
  show (w.heap.push o)[w.heap.size]?=some o
  simp
 have hsz:(w.alloc o).heap.size=w.heap.size + 1:=by
  show (w.heap.push o).size=_
  simp
 refine⟨fun b j=>ok b j/\b≠w.heap.size,h.grow (new:=[.obj w.heap.size o]) (Ext.alloc w o) hk (fun b j hb=>⟨h.fresh b j (by omega),by omega⟩) ?_ ?_ ?_ ?_⟩
 ·intro p hp
  rw [List.mem_singleton] at hp
  subst hp
  exact⟨hnew,ho⟩
 ·intro p hp g hg
  rw [List.mem_singleton] at hp
  subst hp
  injection hg with hg
  omega
 ·intro p hp b j hb hh
  rw [List.mem_singleton] at hp
  subst hp
  exact hh.2 hb
 ·exact List.pairwise_singleton _ _
theorem St.setObj {ok:Ok}{w:World}{pre post:List Piece}{g:Nat}{o o':Obj}(h:St s ok (pre++.obj g o::post) w)(ho:Obj.notCells o'=true) :
  St s ok (pre++.obj g o'::post) { w with heap:=w.heap.setIfInBounds g o' }/\Stp ok w ok { w with heap:=w.heap.setIfInBounds g o' }:=by
 have hpm:Piece.obj g o ∈ pre++.obj g o::post:=by simp
 have hlt:g < w.heap.size:=(h.lt _ hpm g rfl).1
 have hoth:∀ b,b≠g->(w.heap.setIfInBounds g o')[b]?=w.heap[b]?:=fun b hb=>Array.getElem?_setIfInBounds_ne (Ne.symm hb)
 have hst:Stp ok w ok { w with heap:=w.heap.setIfInBounds g o' }:=⟨by simp,fun b j u h1 h2=>by
  have hne:b≠g:=by
   rintro rfl
   exact h.own _ hpm b j rfl h2
  exact⟨(cell_block (hoth b hne)).trans h1,h2⟩⟩
 refine⟨h.write (g:=g) (p':=.obj g o') rfl (.inl rfl) hst ⟨by simp [hlt],ho⟩ (fun b j hb=>h.own _ hpm b j hb) (by simp) rfl rfl rfl hoth (fun _ _ _=>Iff.rfl),hst⟩
theorem al_rangeS {T:TypeId}[t:TyT P T]{x:Operand}{l:Bs}(h:∀ g,AL P N ops Q s rest ((d,ptr g)::e) (.obj g (.stringIter ⟨l.toArray⟩ 0)::m))(hx:ev e x=some (str l):=by exact rfl)(hd:Nat.blt d N=true:=by exact rfl):AL P N ops Q s (⟨some d,.range T x,ty,pos,af,none⟩::rest) e m:=
 al_stepV (fun ok w A hS hA=>by
  obtain⟨ok',g1,g2⟩:=hS.newObj (o:=.stringIter ⟨l.toArray⟩ 0) rfl
  exact⟨_,.pointer (some ⟨w.heap.size,0,none⟩),w.alloc (.stringIter ⟨l.toArray⟩ 0),ok',_,by simp [execOp,hA.lit hx,Instr.range,run_underlying t.out,newObj,Sem.run],RVl rfl,g1,g2,h w.heap.size⟩) hd
theorem al_nextS {x:Operand}{l:Bs}{g i:Nat}{pre post:List Piece}(hi:i < l.length)(hm:m=pre++.obj g (.stringIter ⟨l.toArray⟩ i)::post)(h:AL P N ops Q s rest ((d,.tup [boo true,int i,.lit (.int .i32 (runeAt l i).1)])::e) (pre++.obj g (.stringIter ⟨l.toArray⟩ (i + (runeAt l i).2))::post))(hx:ev e x=some (ptr g):=by exact rfl)(hd:Nat.blt d N=true:=by exact rfl):AL P N ops Q s (⟨some d,.next x true,ty,pos,af,none⟩::rest) e m:=
 al_stepV (fun ok w A hS hA=>by
  subst hm
  obtain⟨ho,_⟩:=hS.at_ (.obj g (.stringIter ⟨l.toArray⟩ i)) (by simp)
  obtain⟨g1,g2⟩:=hS.setObj (o':=.stringIter ⟨l.toArray⟩ (i + (runeAt l i).2)) rfl
  have hi':i < (⟨l.toArray⟩:ByteArray).size:=by rw [size_sv];exact hi
  exact⟨.tup [boo true,int i,.lit (.int .i32 (runeAt l i).1)],.tuple #[.bool true,.int .i64 i,.int .i32 (runeAt l i).1],_,ok,_,by
   simp [execOp,hA.lit hx,Instr.next,getObj,setObj,Sem.run,ho,hi',goInt,runeAt],⟨_,rfl,_,_,rfl,RV0.of_lit rfl,_,_,rfl,RV0.of_lit rfl,_,_,rfl,RV0.of_lit rfl,rfl⟩,g1,g2,h⟩) hd
theorem al_nextE {x:Operand}{l:Bs}{g i:Nat}(hi:l.length<=i)(hm:Piece.obj g (.stringIter ⟨l.toArray⟩ i) ∈ m)(h:AL P N ops Q s rest ((d,.tup [boo false])::e) m)(hx:ev e x=some (ptr g):=by exact rfl)(hd:Nat.blt d N=true:=by exact rfl):AL P N ops Q s (⟨some d,.next x true,ty,pos,af,none⟩::rest) e m:=
 al_val (fun ok w A hS hA=>by
  obtain⟨ho,_⟩:=hS.at_ _ hm
  have hi':¬ i < (⟨l.toArray⟩:ByteArray).size:=by rw [size_sv];omega
  exact⟨.tuple #[.bool false],by simp [execOp,hA.lit hx,Instr.next,getObj,Sem.run,ho,hi'],⟨_,rfl,_,_,rfl,RV0.of_lit rfl,rfl⟩⟩) hd h
end
end Av

namespace Go.Proofs.YtndhpgclmgpmoaaGreatDoor
open Go Go.RowKit Tw Av
abbrev MpE:=Int × Bs × Nat
def mpF (es:List MpE)(a:Int):Option Bs:=(es.find? fun e=>decide (e.1=a)).map (·.2.1)
def mpI (es:List MpE)(a:Int):Nat:=es.findIdx fun e=>decide (e.1=a)
def mpP (es:List MpE)(ck:Nat)(a:Int)(s:Bs):List MpE:=if mpI es a < es.length then es.modify (mpI es a) (fun e=>(a,s,e.2.2)) else es++[(a,s,ck)]
def mpC (es:List MpE)(ck:Nat)(a:Int):Nat:=if mpI es a < es.length then ck else ck + 1
def mpD (es:List MpE)(a:Int):List MpE:=es.eraseIdx (mpI es a)
def MpN (es:List MpE):Prop:=(es.map (·.1)).Nodup
theorem mpP_keys {es:List MpE}{ck:Nat}{a:Int}{s:Bs}:(mpP es ck a s).map (·.1)=if mpI es a < es.length then es.map (·.1) else es.map (·.1)++[a]:=by
 unfold mpP
 by_cases h:mpI es a < es.length
 ·rw [if_pos h,if_pos h]
  apply List.ext_getElem
  ·simp
  ·intro i h1 h2
   simp only [List.getElem_map,List.getElem_modify]
   by_cases e:mpI es a=i
   ·rw [if_pos e]
    have:=List.findIdx_getElem (w:=h)
    subst e
    exact (of_decide_eq_true this).symm
   ·rw [if_neg e]
 ·rw [if_neg h,if_neg h]
  simp
theorem mpI_none {es:List MpE}{a:Int}(h:¬ mpI es a < es.length):a ∉ es.map (·.1):=by
 intro hm
 obtain⟨e,he,rfl⟩:=List.mem_map.1 hm
 exact h (List.findIdx_lt_length_of_exists ⟨e,he,by simp⟩)
theorem mpP_n {es:List MpE}{ck:Nat}{a:Int}{s:Bs}(h:MpN es):MpN (mpP es ck a s):=by
 unfold MpN
 rw [mpP_keys]
 split
 ·exact h
 ·rename_i hn
  rw [List.nodup_append]
  refine⟨h,by simp,fun x hx y hy=>?_⟩
  rw [List.mem_singleton.1 hy]
  exact fun e=>mpI_none hn (e ▸ hx)
theorem mpD_n {es:List MpE}{a:Int}(h:MpN es):MpN (mpD es a):=by
 unfold MpN mpD
 exact h.sublist ((List.eraseIdx_sublist _ _).map _)
theorem mpF_cons (e:MpE)(es:List MpE)(a:Int):mpF (e::es) a=if e.1=a then some e.2.1 else mpF es a:=by
 unfold mpF
 rw [List.find?_cons]
 by_cases h:e.1=a <;> simp [h]
theorem mpF_nil (a:Int):mpF [] a=none:=rfl
theorem mpI_cons (e:MpE)(es:List MpE)(a:Int):mpI (e::es) a=if e.1=a then 0 else mpI es a + 1:=by
 unfold mpI
 rw [List.findIdx_cons]
 by_cases h:e.1=a <;> simp [h]
theorem mpF_put {ck:Nat}{a:Int}{s:Bs}(b:Int):∀ {es:List MpE},mpF (mpP es ck a s) b=if b=a then some s else mpF es b
 | []=>by
  show mpF [(a,s,ck)] b=_
  rw [mpF_cons,mpF_nil]
  by_cases h:b=a
  ·rw [if_pos h,if_pos h.symm]
  ·rw [if_neg h,if_neg (fun e=>h e.symm)]
 | e::es=>by
  have ih:=mpF_put (ck:=ck) (a:=a) (s:=s) b (es:=es)
  by_cases h:e.1=a
  ·have h0:mpI (e::es) a=0:=by rw [mpI_cons,if_pos h]
   have hp:mpP (e::es) ck a s=(a,s,e.2.2)::es:=by
    unfold mpP
    rw [h0,if_pos (by simp)]
    rfl
   rw [hp,mpF_cons,mpF_cons]
   by_cases hb:b=a
   ·rw [if_pos hb,if_pos hb.symm]
   ·rw [if_neg hb,if_neg (fun e=>hb e.symm),if_neg (fun e'=>hb (e'.symm.trans h))]
  ·have h0:mpI (e::es) a=mpI es a + 1:=by rw [mpI_cons,if_neg h]
   have hp:mpP (e::es) ck a s=e::mpP es ck a s:=by
    unfold mpP
    rw [h0,List.length_cons]
    by_cases hl:mpI es a < es.length
    ·rw [if_pos (by omega),if_pos hl]
     rfl
    ·rw [if_neg (by omega),if_neg hl]
     rfl
   rw [hp,mpF_cons,mpF_cons,ih]
   by_cases hb:b=a
   ·rw [if_pos hb,if_pos hb,if_neg (fun e'=>h (e'.trans hb))]
   ·rw [if_neg hb,if_neg hb]
theorem mpF_none {es:List MpE}{a:Int}(h:a ∉ es.map (·.1)):mpF es a=none:=by
 unfold mpF
 rw [List.find?_eq_none.2 (fun e he=>by simpa using fun e'=>h (List.mem_map.2 ⟨e,he,e'⟩))]
 rfl
theorem mpF_del {a:Int}(b:Int):∀ {es:List MpE},MpN es->mpF (mpD es a) b=if b=a then none else mpF es b
 | [],_=>by
  show none=_
  split <;> rfl
 | e::es,hn=>by
  have hn':e.1 ∉ es.map (·.1)/\MpN es:=by
   unfold MpN at hn ⊢
   rw [List.map_cons,List.nodup_cons] at hn
   exact hn
  have ih:=mpF_del (a:=a) b hn'.2
  by_cases h:e.1=a
  ·have hp:mpD (e::es) a=es:=by
    unfold mpD
    rw [mpI_cons,if_pos h]
    rfl
   rw [hp,mpF_cons]
   by_cases hb:b=a
   ·rw [if_pos hb]
    exact mpF_none (by rw [hb,<- h];exact hn'.1)
   ·rw [if_neg hb,if_neg (fun e'=>hb (e'.symm.trans h))]
  ·have hp:mpD (e::es) a=e::mpD es a:=by
    unfold mpD
    rw [mpI_cons,if_neg h]
    rfl
   rw [hp,mpF_cons,mpF_cons,ih]
   by_cases hb:b=a
   ·rw [if_pos hb,if_pos hb,if_neg (fun e'=>h (e'.trans hb))]
   ·rw [if_neg hb,if_neg hb]
def z64:Bs:=List.replicate 64 0
structure DvX where
 n:Int
 es:List MpE
 ck:Nat
 ws:List (Int × Bs)
 on:Bool
 ar:Bool
 lf:Int
 st:Int
def dvNew (n:Int):DvX:=⟨n,[],0,[],true,false,0,0⟩
def dvHas (x:DvX)(a:Int):Bool:=decide (0<=a/\a < x.n)
def dvSafe (x:DvX)(a:Int):Bs:=(mpF x.es a).getD z64
def kpE (es:List MpE)(ck:Nat)(w:Int × Bs):List MpE:=if w.2=z64 then mpD (mpP es ck w.1 w.2) w.1 else mpP es ck w.1 w.2
def kpC (es:List MpE)(ck:Nat)(w:Int × Bs):Nat:=mpC es ck w.1
def dvKeep (x:DvX)(w:Int × Bs):DvX:={ x with es:=kpE x.es x.ck w,ck:=kpC x.es x.ck w }
theorem kpE_n {es:List MpE}{ck:Nat}{w:Int × Bs}(h:MpN es):MpN (kpE es ck w):=by
 unfold kpE
 split
 ·exact mpD_n (mpP_n h)
 ·exact mpP_n h
theorem dvKeep_safe {x:DvX}{w:Int × Bs}(h:MpN x.es)(b:Int):dvSafe (dvKeep x w) b=if b=w.1 then w.2 else dvSafe x b:=by
 unfold dvSafe dvKeep kpE
 dsimp only
 split
 ·rename_i hz
  rw [mpF_del b (mpP_n h),mpF_put]
  by_cases hb:b=w.1
  ·rw [if_pos hb,if_pos hb,hz]
   rfl
  ·rw [if_neg hb,if_neg hb,if_neg hb]
 ·rw [mpF_put]
  by_cases hb:b=w.1
  ·rw [if_pos hb,if_pos hb]
   rfl
  ·rw [if_neg hb,if_neg hb]
def wsL (ws:List (Int × Bs))(a:Int):Option Bs:=(ws.reverse.find? fun w=>decide (w.1=a)).map (·.2)
def dvRd (x:DvX)(a:Int):Bs:=(wsL x.ws a).getD (dvSafe x a)
def dvPut (x:DvX)(w:Int × Bs):DvX:={ x with ws:=x.ws++[w] }
def dvFl (x:DvX):DvX:={ x.ws.foldl dvKeep x with ws:=[] }
def dvMay (x:DvX):Bool:=!(x.ar && decide (x.lf=0))
def dvStep (x:DvX):DvX:={ x with lf:=if x.ar=true then x.lf - 1 else x.lf,st:=IntKind.i64.wrap (x.st + 1) }
def dvOff (x:DvX):DvX:={ x with on:=false }
def dvWr (x:DvX)(a:Int)(s:Bs):DvX × Int:=
 if x.on=false then (x,14) else if dvHas x a=false\/s.length≠64 then (x,1)
 else if dvMay x=false then (dvPut (dvOff x) (a,s),14) else (dvPut (dvStep x) (a,s),0)
def dvFlush (x:DvX):DvX × Int:=if x.on=false then (x,14) else if dvMay x=false then (dvOff x,14) else (dvFl (dvStep x),0)
def dvArm (x:DvX)(k:Int):DvX:={ x with ar:=true,lf:=max k 0 }
def crW (x:DvX)(k:List Bool)(torn cut:Int)(i:Nat)(w:Int × Bs):DvX:=
 if k.getD i false=true then dvKeep x (w.1,if (i:Int)=torn then w.2.take (min (max cut 0) 64).toNat++(dvSafe x w.1).drop (min (max cut 0) 64).toNat else w.2) else x
def crF (k:List Bool)(torn cut:Int):Nat->DvX->List (Int × Bs)->DvX
 | _,x,[]=>x
 | i,x,w::ws=>crF k torn cut (i + 1) (crW x k torn cut i w) ws
def dvCrash (x:DvX)(k:List Bool)(torn cut:Int):DvX:=if x.n=0 then x else { crF k torn cut 0 x x.ws with ws:=[],on:=true,ar:=false }
end Go.Proofs.YtndhpgclmgpmoaaGreatDoor
