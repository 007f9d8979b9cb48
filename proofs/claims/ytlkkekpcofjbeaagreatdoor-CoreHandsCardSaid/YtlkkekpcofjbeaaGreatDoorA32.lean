/- names, walked: where a slash is; how many there are; what stands behind a name -/
import Derived.Lib.Bytealg
import Derived.Test.YtlkkekpcofjbeaaGreatDoorA24
import Derived.Test.YtlkkekpcofjbeaaGreatDoorA25
import Derived.Test.YtlkkekpcofjbeaaGreatDoorA26
import Derived.Test.YtlkkekpcofjbeaaGreatDoorA28
import Derived.Test.YtlkkekpcofjbeaaGreatDoorA31
namespace Av
open Go Go.RowKit Tw
def runeAt (l:Bs)(i:Nat):Nat × Nat:=Utf8.decode ⟨l.toArray⟩ i
theorem get_sv (l:Bs)(i:Nat):(⟨l.toArray⟩:ByteArray).get! i=l.getD i 0:=by
 show (l.toArray)[i]! = _
 simp [List.getD]
 rfl
theorem rune_cases {l:Bs}{i:Nat}(hi:i < l.length):1<=(runeAt l i).2/\i + (runeAt l i).2<=l.length /\
  (((l.getD i 0).toNat < 128/\(runeAt l i).1=(l.getD i 0).toNat/\(runeAt l i).2=1)\/(128<=(l.getD i 0).toNat/\128<=(runeAt l i).1/\∀ k,0 < k->k < (runeAt l i).2->128<=(l.getD (i + k) 0).toNat)):=by
 unfold runeAt Utf8.decode
 simp only [get_sv,size_sv,Nat.add_zero,Utf8.runeError]
 have hb:=UInt8.toNat_lt (l.getD i 0)
 generalize (l.getD i 0).toNat=b0 at *
 have key:∀ k,(l.getD (i + k) 0).toNat=(l.getD (i + k) 0).toNat:=fun _=>rfl
 split
 ·rename_i h
  exact⟨by omega,by omega,.inl ⟨h,rfl,rfl⟩⟩
 ·rename_i h
  have one:∀ c:Nat,128<=c->1<=(c,1).2/\i + (c,1).2<=l.length/\((b0 < 128/\(c,1).1=b0/\(c,1).2=1)\/(128<=b0/\128<=(c,1).1/\∀ k,0 < k->k < (c,1).2->128<=(l.getD (i + k) 0).toNat)):=
   fun c hc=>⟨Nat.le_refl _,by simp only;omega,.inr ⟨by omega,hc,fun k h1 h2=>by simp only at h2;omega⟩⟩
  split
  ·rename_i h1
   simp only [Bool.and_eq_true,decide_eq_true_eq,beq_iff_eq] at h1
   obtain⟨h1,h2,h3⟩:=h1
   split
   ·rename_i h4
    refine⟨by simp only;omega,by simp only;omega,.inr ⟨by omega,by simp only;omega,fun k g1 g2=>?_⟩⟩
    simp only at g2
    obtain rfl:k=1:=by omega
    omega
   ·exact one _ (by decide)
  ·split
   ·rename_i h1
    simp only [Bool.and_eq_true,decide_eq_true_eq,beq_iff_eq] at h1
    obtain⟨⟨h1,h2,h3⟩,h4,h5⟩:=h1
    split
    ·rename_i h6
     simp only [Bool.and_eq_true,decide_eq_true_eq,ge_iff_le] at h6
     refine⟨by simp only;omega,by simp only;omega,.inr ⟨by omega,by simp only;omega,fun k g1 g2=>?_⟩⟩
     simp only at g2
     rcases (by omega:k=1\/k=2) with rfl|rfl <;> omega
    ·exact one _ (by decide)
   ·split
    ·rename_i h1
     simp only [Bool.and_eq_true,decide_eq_true_eq,beq_iff_eq] at h1
     obtain⟨⟨⟨h1,h2,h3⟩,h4,h5⟩,h6,h7⟩:=h1
     split
     ·rename_i h8
      simp only [Bool.and_eq_true,decide_eq_true_eq,ge_iff_le] at h8
      refine⟨by simp only;omega,by simp only;omega,.inr ⟨by omega,by simp only;omega,fun k g1 g2=>?_⟩⟩
      simp only at g2
      rcases (by omega:k=1\/k=2\/k=3) with rfl|rfl|rfl <;> omega
     ·exact one _ (by decide)
    ·exact one _ (by decide)
theorem rune_byte {l:Bs}{i c:Nat}(hi:i < l.length)(hc:c < 128):((runeAt l i).1=c↔(l.getD i 0).toNat=c)/\((runeAt l i).1≠c->∀ j,i<=j->j < i + (runeAt l i).2->(l.getD j 0).toNat≠c):=by
 obtain⟨h1,h2,h3⟩:=rune_cases hi
 rcases h3 with⟨h3,h4,h5⟩|⟨h3,h4,h5⟩
 ·refine⟨by omega,fun hne j g1 g2=>?_⟩
  obtain rfl:j=i:=by omega
  omega
 ·refine⟨by omega,fun hne j g1 g2=>?_⟩
  by_cases hj:j=i
  ·subst hj;omega
  ·have:=h5 (j - i) (by omega) (by omega)
   rw [show i + (j - i)=j by omega] at this
   omega
section
variable {P:Program} {N:Nat} {ops:Array Oper} {Q:Exit->Act->World->Prop} {rest:List Oper} {s:Base} {e:Env} {m:List Piece} {d:Nat} {ty:TypeId} {pos:String} {af:Array Edge}
theorem St.newObj {ok:Ok}{w:World}(h:St s ok m w){o:Obj}(ho:Obj.notCells o=true):∃ ok',St s ok' (.obj w.heap.size o::m) (w.alloc o)/\Stp ok w ok' (w.alloc o):=by
 have hk:∀ b j,b < w.heap.size->((ok b j/\b≠w.heap.size)↔ok b j):=fun b j hb=>⟨fun h=>h.1,fun h=>⟨h,by omega⟩⟩
 have hnew:(w.alloc o).heap[w.heap.size]?=some o:=by
  show (w.heap.push o)[w.heap.size]?=some o
  simp
 have hsz:(w.alloc o).heap.size=w.heap.size + 1:=by
  show (w.heap.push o).size=_
  simp
 refine⟨fun b j=>ok b j/\b≠w.heap.size,h.grow (new:=[.obj w.heap.size o]) (Ext.alloc w o) hk (fun b j hb=>⟨h.fresh b j (by omega),by omega⟩) ?_ ?_ ?_ ?_⟩
 ·intro p hp
  rw [List.mem_singleton] at hp
  subst hp
  exact⟨hnew,ho⟩
 ·intro p hp g hg
  rw [List.mem_singleton] at hp
  subst hp
  injection hg with hg
  omega
 ·intro p hp b j hb hh
  rw [List.mem_singleton] at hp
  subst hp
  exact hh.2 hb
 ·exact List.pairwise_singleton _ _
theorem St.setObj {ok:Ok}{w:World}{pre post:List Piece}{g:Nat}{o o':Obj}(h:St s ok (pre++.obj g o::post) w)(ho:Obj.notCells o'=true) :
  St s ok (pre++.obj g o'::post) { w with heap:=w.heap.setIfInBounds g o' }/\Stp ok w ok { w with heap:=w.heap.setIfInBounds g o' }:=by
 have hpm:Piece.obj g o ∈ pre++.obj g o::post:=by simp
 have hlt:g < w.heap.size:=(h.lt _ hpm g rfl).1
 have hoth:∀ b,b≠g->(w.heap.setIfInBounds g o')[b]?=w.heap[b]?:=fun b hb=>Array.getElem?_setIfInBounds_ne (Ne.symm hb)
 have hst:Stp ok w ok { w with heap:=w.heap.setIfInBounds g o' }:=⟨by simp,fun b j u h1 h2=>by
  have hne:b≠g:=by
   rintro rfl
   exact h.own _ hpm b j rfl h2
  exact⟨(cell_block (hoth b hne)).trans h1,h2⟩⟩
 refine⟨h.write (g:=g) (p':=.obj g o') rfl (.inl rfl) hst ⟨by simp [hlt],ho⟩ (fun b j hb=>h.own _ hpm b j hb) (by simp) rfl rfl rfl hoth (fun _ _ _=>Iff.rfl),hst⟩
theorem al_rangeS {T:TypeId}[t:TyT P T]{x:Operand}{l:Bs}(h:∀ g,AL P N ops Q s rest ((d,ptr g)::e) (.obj g (.stringIter ⟨l.toArray⟩ 0)::m))(hx:ev e x=some (str l):=by exact rfl)(hd:Nat.blt d N=true:=by exact rfl):AL P N ops Q s (⟨some d,.range T x,ty,pos,af,none⟩::rest) e m:=
 al_stepV (fun ok w A hS hA=>by
  obtain⟨ok',g1,g2⟩:=hS.newObj (o:=.stringIter ⟨l.toArray⟩ 0) rfl
  exact⟨_,.pointer (some ⟨w.heap.size,0,none⟩),w.alloc (.stringIter ⟨l.toArray⟩ 0),ok',_,by simp [execOp,hA.lit hx,Instr.range,run_underlying t.out,newObj,Sem.run],RVl rfl,g1,g2,h w.heap.size⟩) hd
theorem al_nextS {x:Operand}{l:Bs}{g i:Nat}{pre post:List Piece}(hi:i < l.length)(hm:m=pre++.obj g (.stringIter ⟨l.toArray⟩ i)::post)(h:AL P N ops Q s rest ((d,.tup [boo true,int i,.lit (.int .i32 (runeAt l i).1)])::e) (pre++.obj g (.stringIter ⟨l.toArray⟩ (i + (runeAt l i).2))::post))(hx:ev e x=some (ptr g):=by exact rfl)(hd:Nat.blt d N=true:=by exact rfl):AL P N ops Q s (⟨some d,.next x true,ty,pos,af,none⟩::rest) e m:=
 al_stepV (fun ok w A hS hA=>by
  subst hm
  obtain⟨ho,_⟩:=hS.at_ (.obj g (.stringIter ⟨l.toArray⟩ i)) (by simp)
  obtain⟨g1,g2⟩:=hS.setObj (o':=.stringIter ⟨l.toArray⟩ (i + (runeAt l i).2)) rfl
  have hi':i < (⟨l.toArray⟩:ByteArray).size:=by rw [size_sv];exact hi
  exact⟨.tup [boo true,int i,.lit (.int .i32 (runeAt l i).1)],.tuple #[.bool true,.int .i64 i,.int .i32 (runeAt l i).1],_,ok,_,by
   simp [execOp,hA.lit hx,Instr.next,getObj,setObj,Sem.run,ho,hi',goInt,runeAt],⟨_,rfl,_,_,rfl,RV0.of_lit rfl,_,_,rfl,RV0.of_lit rfl,_,_,rfl,RV0.of_lit rfl,rfl⟩,g1,g2,h⟩) hd
theorem al_nextE {x:Operand}{l:Bs}{g i:Nat}(hi:l.length<=i)(hm:Piece.obj g (.stringIter ⟨l.toArray⟩ i) ∈ m)(h:AL P N ops Q s rest ((d,.tup [boo false])::e) m)(hx:ev e x=some (ptr g):=by exact rfl)(hd:Nat.blt d N=true:=by exact rfl):AL P N ops Q s (⟨some d,.next x true,ty,pos,af,none⟩::rest) e m:=
 al_val (fun ok w A hS hA=>by
  obtain⟨ho,_⟩:=hS.at_ _ hm
  have hi':¬ i < (⟨l.toArray⟩:ByteArray).size:=by rw [size_sv];omega
  exact⟨.tuple #[.bool false],by simp [execOp,hA.lit hx,Instr.next,getObj,Sem.run,ho,hi'],⟨_,rfl,_,_,rfl,RV0.of_lit rfl,rfl⟩⟩) hd h
end
end Av

namespace Go.Proofs.YtlkkekpcofjbeaaGreatDoor
open Go Go.RowKit Tw Av
theorem getD_in {l:Bs}{i:Nat}(h:i < l.length):l.getD i 0=l[i]:=by simp [List.getD,h]
theorem noSl_iff {s:Bs}:noSl s=true↔∀ j,j < s.length->(s.getD j 0).toNat≠47:=by
 unfold noSl
 rw [List.all_eq_true]
 constructor
 ·intro h j hj
  have:=of_decide_eq_true (h s[j] (List.getElem_mem hj))
  rw [getD_in hj]
  intro e
  exact this (UInt8.toNat_inj.1 e)
 ·intro h c hc
  obtain⟨j,hj,rfl⟩:=List.getElem_of_mem hc
  have:=h j hj
  rw [getD_in hj] at this
  exact dT fun e=>this (by rw [e];rfl)
theorem noSl_ff {s:Bs}{i:Nat}(hi:i < s.length)(h:(s.getD i 0).toNat=47):noSl s=false:=by
 cases hn:noSl s
 ·rfl
 ·exact absurd h (noSl_iff.1 hn i hi)
theorem partB_no {s:Bs}(h:noSl s=false):partB s=false:=by unfold partB;rw [h];rfl
theorem partB_yes {s:Bs}(h:noSl s=true):partB s=decide (1<=s.length/\s.length<=32):=by unfold partB;rw [h];rfl
set_option maxHeartbeats 1000000 in
instance fnTPart {s:Bs}:Ans Tryz.prog GL 110 [str s] True (boo (partB s)):=⟨fun _=>by
 refine qE Tryz.func110 rfl Tryz.ntmps110 rfl (fun _ hs=>?_)
 repeat' first|refine Vz ?_|intro _
 refine al_rangeS (fun g=>?_)
 repeat' first|refine Vz ?_|intro _
 refine ac_loop (α:=Nat) (fun i=>[(0,str s),(6,ptr g)]) (fun i=>[.obj g (.stringIter ⟨s.toArray⟩ i)]) (fun i=>i<=s.length/\∀ j,j < i->(s.getD j 0).toNat≠47) (fun i=>s.length - i) 0 ⟨rfl,rfl,trivial⟩ slr ⟨Nat.zero_le _,fun _ h=>absurd h (by omega)⟩ ?_
 rintro i ⟨hi,hall⟩
 repeat' first|refine Vz ?_|intro _
 by_cases hlt:i < s.length
 ·obtain⟨w1,w2,w3⟩:=rune_cases hlt
  obtain⟨r1,r2⟩:=rune_byte hlt (show 47 < 128 by decide)
  refine al_nextS (pre:=[]) (post:=[]) hlt rfl ?_
  repeat' first|refine Vz ?_|intro _
  refine ac_cond (fun h=>?_) (fun h=>?_)
  ·repeat' first|refine Vz ?_|intro _
   refine reE ?_
   rw [partB_no (noSl_ff hlt (r1.1 (by omega)))]
   rfl
  ·repeat' first|refine Vz ?_|intro _
   refine ae_round (i + (runeAt s i).2) ⟨rfl,rfl,trivial⟩ slr ⟨w2,fun j hj=>?_⟩ (by omega)
   by_cases hj2:j < i
   ·exact hall j hj2
   ·exact r2 (by omega) j (by omega) hj
 ·refine al_nextE (g:=g) (by omega) (List.mem_singleton.2 rfl) ?_
  have hy:noSl s=true:=noSl_iff.2 fun j hj=>hall j (by omega)
  rw [partB_yes hy]
  rcases s with _|⟨c,s⟩
  ·repeat' first|refine Zz ?_|intro _
   refine reE ?_
   rfl
  ·repeat' first|refine Zz ?_|intro _
   refine reE ?_
   rw [decide_eq_decide.2 (show (1<=(c::s).length/\(c::s).length<=32)↔(((c::s).length:Int)<=32) by rw [List.length_cons];omega)]
   rfl⟩
set_option maxHeartbeats 1000000 in
instance fnRPart {s:Bs}:Ans Tryz.prog GL 148 [str s] (s.length<=4611686018427387904) (boo (partB s)):=⟨fun hl=>by
 refine qE Tryz.func148 rfl Tryz.ntmps148 rfl (fun _ hs=>?_)
 repeat' first|refine Vz ?_|intro _
 refine ac_loop (α:=Nat) (fun i=>[(0,str s),(3,int i)]) (fun i=>[]) (fun i=>i<=s.length/\∀ j,j < i->(s.getD j 0).toNat≠47) (fun i=>s.length - i) 0 ⟨rfl,rfl,trivial⟩ slr ⟨Nat.zero_le _,fun _ h=>absurd h (by omega)⟩ ?_
 rintro i ⟨hi,hall⟩
 repeat' first|refine Vz ?_|intro _
 refine ac_cond (fun hlt=>?_) (fun hlt=>?_)
 ·have hil:i < s.length:=by omega
  repeat' first|refine Vz ?_|intro _
  refine al_idxS i ?_ (List.getElem?_eq_getElem hil)
  repeat' first|refine Vz ?_|intro _
  refine ac_cond (fun h=>?_) (fun h=>?_)
  ·repeat' first|refine Vz ?_|intro _
   refine reE ?_
   rw [partB_no (noSl_ff hil (by rw [getD_in hil];omega))]
   rfl
  ·repeat' first|refine Vz ?_|intro _
   refine ae_round (i + 1) ⟨rfl,rfl,trivial⟩ slr ⟨hil,fun j hj=>?_⟩ (by omega)
   by_cases hj2:j < i
   ·exact hall j hj2
   ·obtain rfl:j=i:=by omega
    rw [getD_in hil]
    omega
 ·have hy:noSl s=true:=noSl_iff.2 fun j hj=>hall j (by omega)
  rw [partB_yes hy]
  repeat' first|refine Vz ?_|intro _
  by_cases h1:1<=s.length
  ·repeat' first|refine Zz ?_|intro _
   refine reE ?_
   rw [decide_eq_decide.2 (show (1<=s.length/\s.length<=32)↔((s.length:Int)<=32) by omega)]
   rfl
  ·repeat' first|refine Zz ?_|intro _
   refine reE ?_
   have h0:¬ (1<=s.length/\s.length<=32):=fun h=>h1 h.1
   rw [dZ h0]
   rfl⟩
theorem splS_ne (s:Bs):splS s≠[]:=by
 cases s with
 | nil=>simp [splS]
 | cons c s=>
  rw [splS]
  split <;> simp
theorem splS_part {s x:Bs}(h:x ∈ splS s):x.length<=s.length:=by
 induction s generalizing x with
 | nil=>simp [splS] at h;simp [h]
 | cons c s ih=>
  have hn:=splS_ne s
  rw [splS] at h
  split at h
  ·rcases List.mem_cons.1 h with rfl|h
   ·simp
   ·have:=ih h;simp;omega
  ·cases h2:splS s with
   | nil=>exact absurd h2 hn
   | cons a l=>
    rw [h2] at h
    simp at h
    rcases h with rfl|h
    ·have:=ih (x:=a) (by rw [h2];simp)
     simp
     omega
    ·have:=ih (x:=x) (by rw [h2];simp [h])
     simp
     omega

abbrev dI (l:Bs):List AV:=l.map fun c=>int (c.toNat:Int)
class DIs (xs:List AV)(l:outParam Bs):Prop where
 out:xs=dI l
instance {l:Bs}:DIs (dI l) l:=⟨rfl⟩
theorem dI_len (l:Bs):(dI l).length=l.length:=llm _
theorem dgs_snoc {n k:Nat}:dI (dgs n (k + 1))=dI (dgs n k)++[int ((dg n k:Nat):Int)]:=by
 rw [dgs_succ]
 unfold dI
 rw [List.map_append,List.map_singleton,ofNat_dg]
set_option maxHeartbeats 1000000 in
instance fnDigits {a:Wd}:Ans Tryz.prog GL 73 [widA a] True (.sl 1 (dI (dgs a.n 32)) none):=⟨fun _=>by
 refine qE Tryz.func73 rfl Tryz.ntmps73 rfl (fun _ hs=>?_)
 repeat' first|refine Vz ?_|intro _
 rename_i g1
 refine ac_as 3 (Imp.nil (k:=1)) ?_
 refine ac_st (fun ok w h=>h.full 3 1 none 0) ?_
 refine ac_loop (α:=Nat × Value) (fun q=>[(1,ptr g1),(3,.sl 1 (dI (dgs a.n q.1)) (some q.2)),(4,int q.1)]) (fun q=>[.tail 3 1 q.2,.var g1 45 (widA a)]) (fun q=>q.1<=32) (fun q=>32 - q.1) (0,.slice none 0 0) ⟨rfl,rfl,rfl,trivial⟩ slr (Nat.zero_le _) ?_
 rintro⟨i,v⟩ hi
 dsimp only at hi ⊢
 have hm:(dI (dgs a.n i)).length=i:=by rw [dI_len,dgs_len]
 have hm2:=dgs_len a.n i
 repeat' first|refine Vz ?_|intro _
 refine ac_cond (fun hlt=>?_) (fun hlt=>?_)
 ·have hi32:i < 32:=by omega
  have hq:((i:Int) / 8)=((i / 8:Nat):Int):=by omega
  have hr:((i:Int) % 8)=((i % 8:Nat):Int):=by omega
  have hlm:=lm_lt a.n (i / 8)
  have hdv:lm a.n (i / 8) / 256 ^ (i % 8) < 18446744073709551616:=Nat.lt_of_le_of_lt (Nat.div_le_self _ _) hlm
  have e1:=lm_dg a.n i
  have e2:=dg_lt a.n i
  repeat' first|refine Vz ?_|intro _
  refine al_idxA (i / 8) ?_
  repeat' first|refine Vz ?_|intro _
  refine al_loadE (j:=i / 8) (wid_get (by omega)) ?_
  repeat' first|refine Vz ?_|intro _
  rw [hr]
  repeat' first|refine Yz ?_|intro _
  refine al_shrB (i % 8) ?_
  refine al_and255 hdv ?_
  rw [e1]
  repeat' first|refine Vz ?_|intro _
  refine al_append (fun v'=>?_)
  repeat' first|refine Vz ?_|intro _
  rw [<- dgs_snoc]
  refine ae_round (i + 1,v') ⟨rfl,rfl,rfl,trivial⟩ ?_ hi32 (by dsimp only;omega)
  exact sbl
 ·obtain rfl:i=32:=by omega
  repeat' first|refine Vz ?_|intro _
  refine reI ?_
  exact Imp.sl⟩
theorem dgs_get {n k i:Nat}(h:i < (dgs n k).length):(dgs n k)[i].toNat=dg n i:=by
 have h1:i < k:=by rw [dgs_len] at h;exact h
 have h2:=dgs_at (n:=n) h1
 rw [List.getElem?_eq_getElem h] at h2
 injection h2 with h2
 rw [h2,ofNat_dg]
set_option maxHeartbeats 2000000 in
instance fnRWBytes {a:Wd}:Ans Tryz.prog GL 142 [widA a] True (str (beB a.n)):=⟨fun _=>by
 have hla:=dgs_len a.n 32
 have hbl:=beB_len a.n
 refine qE Tryz.func142 rfl Tryz.ntmps142 rfl (fun _ hs=>?_)
 repeat' first|refine Vz ?_|intro _
 refine ac_as 4 (Imp.nil (k:=1)) ?_
 refine ac_st (fun ok w h=>h.full 5 1 none 0) ?_
 refine ac_loop (α:=Nat × Value) (fun q=>[(3,.sl 1 (dI (dgs a.n 32)) none),(4,.sl 1 (((beB a.n).take (32 - q.1)).map u8A) (some q.2)),(5,int ((q.1:Int) - 1))]) (fun q=>[.tail 5 1 q.2]) (fun q=>q.1<=32) (fun q=>q.1) (32,.slice none 0 0) ⟨rfl,rfl,rfl,trivial⟩ (by repeat (first|exact List.nil_sublist _|exact List.Sublist.refl _|apply List.Sublist.cons_cons|apply List.Sublist.cons)) (Nat.le_refl _) ?_
 rintro⟨n,v⟩ hn
 dsimp only at hn ⊢
 rcases n with _|k
 ·rw [show 32 - 0=32 from rfl,List.take_of_length_le (by omega)]
  repeat' first|refine Zz ?_|intro _
  refine reE ?_
  rfl
 ·rw [show ((k + 1:Nat):Int) - 1=(k:Int) by omega]
  have hka:k < (dgs a.n 32).length:=by omega
  have ea:=dgs_get hka
  have hm:((beB a.n).take (32 - (k + 1))).length<=32:=by rw [List.length_take];omega
  have hm2:(((beB a.n).take (32 - (k + 1))).map u8A).length<=32:=by rw [llm];exact hm
  have e2:((beB a.n).take (32 - k)).map u8A=((beB a.n).take (32 - (k + 1))).map u8A++[u8A (UInt8.ofNat (dg a.n k))]:=by
   rw [show 32 - k=32 - (k + 1) + 1 by omega,beB_take (by omega),List.map_append,show 31 - (32 - (k + 1))=k by omega]
   rfl
  repeat' first|refine Zz ?_|intro _
  rw [ea,u8_wrap]
  refine al_append (fun v'=>?_)
  repeat' first|refine Vz ?_|intro _
  rw [<- e2]
  refine ae_round (k,v') ⟨rfl,rfl,rfl,trivial⟩ ?_ (by dsimp only;omega) (Nat.lt_succ_self k)
  repeat (first|exact List.nil_sublist _|exact List.Sublist.refl _|apply List.Sublist.cons_cons|apply List.Sublist.cons)⟩
theorem leN_lms {l:Bs}{i:Nat}:leN (l.take i) < 256 ^ i:=by
 have h:=leN_lt (l.take i)
 refine Nat.lt_of_lt_of_le h (Nat.pow_le_pow_right (by decide) ?_)
 rw [List.length_take]
 omega
theorem wid_set {n m i:Nat}{x:Nat}(hi:i < 4)(h:∀ j,j < 4->lm m j=if j=i then x else lm n j):[u6 (lm n 0),u6 (lm n 1),u6 (lm n 2),u6 (lm n 3)].set i (u6 x)=[u6 (lm m 0),u6 (lm m 1),u6 (lm m 2),u6 (lm m 3)]:=by
 have h0:=h 0 (by omega)
 have h1:=h 1 (by omega)
 have h2:=h 2 (by omega)
 have h3:=h 3 (by omega)
 rw [h0,h1,h2,h3]
 rcases i with _|_|_|_|i <;> first|rfl|omega
theorem put_lms {l:Bs}{i:Nat}(hi:i < l.length)(j:Nat):lm (leN (l.take (i + 1))) j=if j=i / 8 then lm (leN (l.take i)) (i / 8) + 256 ^ (i % 8) * l[i].toNat else lm (leN (l.take i)) j:=by
 rw [leN_take (List.getElem?_eq_getElem hi),lm_put leN_lms l[i].toNat_lt]
 split
 ·rename_i h;rw [h]
 ·rfl
set_option maxHeartbeats 2000000 in
instance fnNumber {l:Bs}{xs:List AV}{id:Option Value}[hx:DIs xs l]:Ans Tryz.prog GL 74 [.sl 1 xs id] (l.length=32\/l.length=33) (.tup [widA (wOf (leN l)),boo (wIs (leN l))]):=⟨fun hlen=>by
 have h:=hx.out
 subst h
 have hm:(dI l).length=l.length:=dI_len l
 have hbig:33=l.length->leN l=leN (l.take 32) + 256 ^ 32 * (l.getD 32 0).toNat:=fun h=>by
  have h1:=leN_take (List.getElem?_eq_getElem (show 32 < l.length by omega))
  rw [List.take_of_length_le (by omega)] at h1
  rw [h1,getD_in (by omega)]
 refine qE Tryz.func74 rfl Tryz.ntmps74 rfl (fun _ hs=>?_)
 repeat' first|refine Vz ?_|intro _
 rename_i g2 g4
 refine ac_asV (g:=g4) (v:=widN 0) (v':=widN (leN (l.take 0))) (fun ok w cs h=>h) ?_
 refine ac_loop (α:=Nat) (fun i=>[(0,.sl 1 (dI l) id),(2,ptr g2),(4,ptr g4),(5,int i)]) (fun i=>[.var g4 45 (widN (leN (l.take (min i 32)))),.var g2 45 (widN 0)])
  (fun i=>i<=l.length/\(i=33->l.getD 32 0=0)) (fun i=>l.length - i) 0 ⟨rfl,rfl,rfl,rfl,trivial⟩ slr ⟨Nat.zero_le _,fun h=>absurd h (by decide)⟩ ?_
 rintro i ⟨hi,h33⟩
 repeat' first|refine Vz ?_|intro _
 refine ac_cond (fun hlt=>?_) (fun hlt=>?_)
 ·have hil:i < l.length:=by omega
  repeat' first|refine Vz ?_|intro _
  by_cases h32:i=32
  ·subst h32
   have hl33:33=l.length:=by omega
   have hb:=hbig hl33
   repeat' first|refine Zz ?_|intro _
   refine ac_cond (fun h0=>?_) (fun h0=>?_)
   ·repeat' first|refine Vz ?_|intro _
    refine reE ?_
    have hc:1<=(l.getD 32 0).toNat:=by rw [getD_in hil];omega
    have hbb:¬ leN l < 115792089237316195423570985008687907853269984665640564039457584007913129639936:=by
     have h1:256 ^ 32 * 1<=256 ^ 32 * (l.getD 32 0).toNat:=Nat.mul_le_mul_left _ hc
     have h2:(256:Nat) ^ 32 * 1=115792089237316195423570985008687907853269984665640564039457584007913129639936:=by decide
     omega
    rw [wOf_big hbb,show wIs (leN l)=false from dZ hbb]
    rfl
   ·repeat' first|refine Zz ?_|intro _
    refine ae_round 33 ⟨rfl,rfl,rfl,rfl,trivial⟩ ?_ ⟨by omega,fun _=>by rw [getD_in hil];exact UInt8.toNat_inj.1 (by show _=0;omega)⟩ (by omega)
    exact sbl
  ·have hi32:i < 32:=by omega
   have hr:((i:Int) % 8)=((i % 8:Nat):Int):=by omega
   have hby:=l[i].toNat_lt
   have hps:=put_lms hil
   have htop:lm (leN (l.take i)) (i / 8) < 256 ^ (i % 8):=lm_top leN_lms
   have hset:=wid_set (n:=leN (l.take i)) (m:=leN (l.take (i + 1))) (x:=lm (leN (l.take i)) (i / 8) + 256 ^ (i % 8) * l[i].toNat) (show i / 8 < 4 by omega) (fun j _=>hps j)
   rw [Nat.min_eq_left (by omega)]
   repeat' first|refine Zz ?_|intro _
   apply obl_read [];exact rfl;exact rfl;kernel_rfl;intro _ _
   refine al_idxA (i / 8) ?_
   exact al_nil (ae_got rfl rfl)
   apply obl_read [0];exact rfl;exact rfl;kernel_rfl;intro _ _
   refine al_loadE (j:=i / 8) (wid_get (by omega)) ?_
   exact al_nil (ae_got rfl rfl)
   repeat' first|refine Yz ?_|intro _
   rw [hr]
   repeat' first|refine Yz ?_|intro _
   apply obl_read [];exact rfl;exact rfl;kernel_rfl;intro _ _
   refine al_shlB (i % 8) ?_
   exact al_nil (ae_got rfl rfl)
   apply obl_read [];exact rfl;exact rfl;kernel_rfl;intro _ _
   refine al_orP ?_ rfl rfl htop hby (by omega)
   exact al_nil (ae_got rfl rfl)
   repeat' first|refine Yz ?_|intro _
   apply obl_read [];exact rfl;exact rfl;kernel_rfl;intro _ _
   refine al_idxA (i / 8) ?_
   exact al_nil (ae_got rfl rfl)
   apply obl_writeN [0];exact rfl;exact rfl;kernel_rfl
   intro _ _
   refine al_storeE (ps:=[u6 (lm (leN (l.take i)) 0),u6 (lm (leN (l.take i)) 1),u6 (lm (leN (l.take i)) 2),u6 (lm (leN (l.take i)) 3)]) (j:=i / 8) (show i / 8 < 4 by omega) ?_
   exact al_nil (ae_gotN rfl)
   exact rfl
   exact rfl
   rw [hset]
   repeat' first|refine Yz ?_|intro _
   refine ae_round (i + 1) ⟨rfl,rfl,rfl,rfl,trivial⟩ ?_ ⟨hil,fun h=>absurd h (by omega)⟩ (by omega)
   rw [Nat.min_eq_left (by omega)]
   exact sbl
 ·obtain rfl:i=l.length:=by omega
  have hfin:leN (l.take (min l.length 32))=leN l:=by
   rcases hlen with h|h
   ·rw [Nat.min_eq_left (by omega),List.take_length]
   ·rw [Nat.min_eq_right (by omega),hbig h.symm,h33 h]
    rfl
  have hlt2:leN l < 115792089237316195423570985008687907853269984665640564039457584007913129639936:=by
   rw [<- hfin]
   refine Nat.lt_of_lt_of_le leN_lms ?_
   exact Nat.pow_le_pow_right (n:=256) (j:=32) (by decide) (by omega)
  rw [hfin]
  repeat' first|refine Vz ?_|intro _
  refine reE ?_
  rw [show wIs (leN l)=true from dT hlt2]
  show AV.tup [widN _,_]=.tup [widN _,_]
  rw [wOf_n hlt2]⟩
theorem dI_snoc (l:Bs)(c:UInt8):dI (l++[c])=dI l++[int (c.toNat:Int)]:=by
 unfold dI
 rw [List.map_append]
 rfl
set_option maxHeartbeats 2000000 in
instance fnRWFrom {s:Bs}:Ans Tryz.prog GL 72 [str s] (s.length<=1000000000) (.tup [widA (if s.length=32 then wOf (beN s) else wZ),int (if s.length=32 then 0 else 10)]):=⟨fun hl=>by
 refine qE Tryz.func72 rfl Tryz.ntmps72 rfl (fun _ hs=>?_)
 repeat' first|refine Vz ?_|intro _
 refine ac_cond (fun hne=>?_) (fun hne=>?_)
 ·have h32:¬ s.length=32:=by omega
  repeat' first|refine Vz ?_|intro _
  refine reE ?_
  rw [if_neg h32,if_neg h32]
  rfl
 have h32:s.length=32:=by omega
 repeat' first|refine Vz ?_|intro _
 rename_i g2
 refine ac_as 4 (Imp.nil (k:=1)) ?_
 refine ac_st (fun ok w h=>h.full 3 1 none 0) ?_
 refine ac_loop (α:=Nat × Value) (fun q=>[(0,str s),(2,ptr g2),(3,int 0),(4,.sl 1 (dI (s.reverse.take (32 - q.1))) (some q.2)),(5,int ((q.1:Int) - 1))]) (fun q=>[.tail 3 1 q.2,.var g2 45 (widN 0)]) (fun q=>q.1<=32) (fun q=>q.1) (32,.slice none 0 0) ⟨rfl,rfl,rfl,rfl,rfl,trivial⟩ (by repeat (first|exact List.nil_sublist _|exact List.Sublist.refl _|apply List.Sublist.cons_cons|apply List.Sublist.cons)) (Nat.le_refl _) ?_
 rintro⟨n,v⟩ hn
 dsimp only at hn ⊢
 rcases n with _|k
 ·rw [show 32 - 0=32 from rfl,List.take_of_length_le (by rw [List.length_reverse];omega)]
  have hrl:s.reverse.length=32\/s.reverse.length=33:=.inl (by rw [List.length_reverse];omega)
  repeat' first|refine Zz ?_|intro _
  refine reE ?_
  rw [if_pos h32,if_pos h32]
  rfl
 ·rw [show ((k + 1:Nat):Int) - 1=(k:Int) by omega]
  have hk:k < s.length:=by omega
  have hm:(s.reverse.take (32 - (k + 1))).length<=32:=by rw [List.length_take];omega
  have hm2:(dI (s.reverse.take (32 - (k + 1)))).length<=32:=by rw [dI_len];exact hm
  have e0:s.reverse[32 - (k + 1)]'(by rw [List.length_reverse];omega)=s[k]:=by
   rw [List.getElem_reverse]
   congr 1
   omega
  have e2:dI (s.reverse.take (32 - k))=dI (s.reverse.take (32 - (k + 1)))++[int (s[k].toNat:Int)]:=by
   rw [show 32 - k=32 - (k + 1) + 1 by omega,List.take_succ_eq_append_getElem (by rw [List.length_reverse];omega),dI_snoc,e0]
  repeat' first|refine Zz ?_|intro _
  have hby:=s[k].toNat_lt
  refine al_idxS k ?_ (List.getElem?_eq_getElem hk)
  repeat' first|refine Yz ?_|intro _
  refine al_append (fun v'=>?_)
  repeat' first|refine Vz ?_|intro _
  rw [<- e2]
  refine ae_round (k,v') ⟨rfl,rfl,rfl,rfl,rfl,trivial⟩ ?_ (by dsimp only;omega) (Nat.lt_succ_self k)
  repeat (first|exact List.nil_sublist _|exact List.Sublist.refl _|apply List.Sublist.cons_cons|apply List.Sublist.cons)⟩


def ixS (s:Bs):Nat:=s.findIdx fun c=>decide (c=47)
theorem ixS_lt {s:Bs}:ixS s < s.length↔noSl s=false:=by
 unfold ixS noSl
 rw [List.findIdx_lt_length]
 constructor
 ·rintro⟨x,hx,h⟩
  rw [List.all_eq_false]
  exact⟨x,hx,by simpa using h⟩
 ·intro h
  rw [List.all_eq_false] at h
  obtain⟨x,hx,h⟩:=h
  exact⟨x,hx,by simpa using h⟩
def ixI (s:Bs):Int:=if ixS s < s.length then (ixS s:Int) else -1
theorem ix_lib (s:Bs):Lib.indexByte s 47=ixI s:=by
 induction s with
 | nil=>rfl
 | cons c s ih=>
  rw [Lib.indexByte,ih]
  unfold ixI ixS
  rw [List.findIdx_cons,List.length_cons]
  by_cases h:c=47
  ·subst h
   simp
  ·have h2:(c == 47)=false:=by simpa using h
   rw [h2,dZ h]
   simp only [Bool.false_eq_true,if_false,cond_false]
   generalize s.findIdx (fun c=>decide (c=47))=k
   by_cases hk:k < s.length
   ·have h3:(((k:Nat):Int) == -1)=false:=by
     rw [beq_eq_false_iff_ne]
     omega
    have h4:k + 1 < s.length + 1:=by omega
    simp only [if_pos hk,if_pos h4,h3]
    simp
   ·have h4:¬ k + 1 < s.length + 1:=by omega
    simp only [if_neg hk,if_neg h4]
    rfl
theorem run_ix (s:Bs)(w:World):(Extern.BytealgIndexByte.indexByte #[sv s,.int .u8 47]).run Tryz.prog w=.ok (.int .i64 (ixI s)) w:=by
 have h:=Lib.run_indexByteString (P:=Tryz.prog) ⟨s.toArray⟩ 47 w
 rw [show (47:Int).toNat.toUInt8=47 from rfl,ix_lib] at h
 exact h
theorem run_cnt (s:Bs)(w:World):(Extern.BytealgCount.count #[sv s,.int .u8 47]).run Tryz.prog w=.ok (.int .i64 (s.count 47:Nat)) w:=
 Lib.run_countString (P:=Tryz.prog) ⟨s.toArray⟩ 47 w
instance fnIxB {s:Bs}:Ans Tryz.prog GL 286 [str s,.lit (u8v 47)] True (int (ixI s)):=⟨fun _=>by
 refine qE Tryz.func286 rfl Tryz.ntmps286 rfl (fun _ hs=>?_)
 repeat' first|refine Vz ?_|intro _
 apply al_ext (v:=int (ixI s)) Tryz.func304;kernel_rfl;exact rfl;kernel_rfl;kernel_rfl;exact rfl;exact rfl;exact rfl
 ·rintro ok w cs _ ⟨u1,us,rfl,h1,u2,us2,rfl,h2,rfl⟩
  rw [RV0.lit h1,RV0.lit h2]
  exact⟨_,run_ix s _,RVl rfl⟩
 repeat' first|refine Vz ?_|intro _
 refine reE ?_
 rfl⟩
instance fnIxL {s:Bs}:Ans Tryz.prog GL 260 [str s,str [47]] True (int (ixI s)):=⟨fun _=>by
 refine qE Tryz.func260 rfl Tryz.ntmps260 rfl (fun _ hs=>?_)
 repeat' first|refine Zz ?_|intro _
 refine ac_cond (fun h=>?_) (fun h=>?_)
 ·repeat' first|refine Zz ?_|intro _
  refine reE ?_
  rw [<- h]
  rfl
 have h1:([47]:Bs).length=1:=rfl
 repeat' first|refine Yz ?_|intro _
 refine reE ?_
 rfl⟩
instance fnIx {s:Bs}:Ans Tryz.prog GL 221 [str s,str [47]] True (int (ixI s)):=⟨fun _=>by
 refine qE Tryz.func221 rfl Tryz.ntmps221 rfl (fun _ hs=>?_)
 repeat' first|refine Vz ?_|intro _
 refine reE ?_
 rfl⟩
instance fnContains {s:Bs}:Ans Tryz.prog GL 164 [str s,str [47]] True (boo (!noSl s)):=⟨fun _=>by
 refine qE Tryz.func164 rfl Tryz.ntmps164 rfl (fun _ hs=>?_)
 repeat' first|refine Vz ?_|intro _
 refine reE ?_
 have h:decide (0<=ixI s)=!noSl s:=by
  unfold ixI
  by_cases h:ixS s < s.length
  ·rw [if_pos h,ixS_lt.1 h]
   exact dT (by omega)
  ·rw [if_neg h]
   have hn:noSl s=true:=by
    cases hh:noSl s
    ·exact absurd (ixS_lt.2 hh) h
    ·rfl
   rw [hn]
   rfl
 show boo _=_
 rw [h]⟩
instance fnCount {s:Bs}:Ans Tryz.prog GL 162 [str s,str [47]] True (int (s.count 47:Nat)):=⟨fun _=>by
 have h1:([47]:Bs).length=1:=rfl
 refine qE Tryz.func162 rfl Tryz.ntmps162 rfl (fun _ hs=>?_)
 repeat' first|refine Yz ?_|intro _
 apply al_ext (v:=int (s.count 47:Nat)) Tryz.func220;kernel_rfl;exact rfl;kernel_rfl;kernel_rfl;exact rfl;exact rfl;exact rfl
 ·rintro ok w cs _ ⟨u1,us,rfl,h1,u2,us2,rfl,h2,rfl⟩
  rw [RV0.lit h1,RV0.lit h2]
  exact⟨_,run_cnt s _,RVl rfl⟩
 repeat' first|refine Zz ?_|intro _
 refine reE ?_
 rfl⟩
instance fnHasPrefixL {s p:Bs}:Ans Tryz.prog GL 310 [str s,str p] True (boo (decide (s.take p.length=p))):=⟨fun _=>by
 refine qE Tryz.func310 rfl Tryz.ntmps310 rfl (fun _ hs=>?_)
 repeat' first|refine Vz ?_|intro _
 refine gu1 (fun h=>?_) (fun h=>?_)
 ·repeat' first|refine Vz ?_|intro _
  refine al_sliceS 0 p.length ?_
  repeat' first|refine Vz ?_|intro _
  refine reE ?_
  rfl
 ·repeat' first|refine Zz ?_|intro _
  refine reE ?_
  have:¬ s.take p.length=p:=fun e=>by
   have h2:=congrArg List.length e
   rw [List.length_take] at h2
   omega
  rw [dZ this]
  rfl⟩
instance fnCutPrefixL {s p:Bs}:Ans Tryz.prog GL 301 [str s,str p] True (.tup [str (if s.take p.length=p then s.drop p.length else s),boo (decide (s.take p.length=p))]):=⟨fun _=>by
 refine qE Tryz.func301 rfl Tryz.ntmps301 rfl (fun _ hs=>?_)
 repeat' first|refine Vz ?_|intro _
 refine ac_cond (fun h=>?_) (fun h=>?_)
 ·repeat' first|refine Vz ?_|intro _
  refine reE ?_
  rw [if_neg h,dZ h]
  rfl
 ·have h':s.take p.length=p:=Classical.not_not.1 h
  have hl:p.length<=s.length:=by
   have h2:=congrArg List.length h'
   rw [List.length_take] at h2
   omega
  repeat' first|refine Vz ?_|intro _
  refine al_sliceS p.length s.length ?_
  repeat' first|refine Vz ?_|intro _
  refine reE ?_
  rw [if_pos h',dT h',List.take_length]
  rfl⟩
instance fnCutPrefix {s p:Bs}:Ans Tryz.prog GL 279 [str s,str p] True (.tup [str (if s.take p.length=p then s.drop p.length else s),boo (decide (s.take p.length=p))]):=⟨fun _=>by
 refine qE Tryz.func279 rfl Tryz.ntmps279 rfl (fun _ hs=>?_)
 repeat' first|refine Vz ?_|intro _
 refine reE ?_
 rfl⟩
end Go.Proofs.YtlkkekpcofjbeaaGreatDoor
