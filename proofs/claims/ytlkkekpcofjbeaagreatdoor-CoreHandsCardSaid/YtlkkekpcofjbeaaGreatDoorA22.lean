/- a map, read behind what was put or dropped -/
import Derived.Lib.Bytealg
import Derived.Test.YtlkkekpcofjbeaaGreatDoorA21
namespace Go.Proofs.YtlkkekpcofjbeaaGreatDoor
open Go Go.RowKit Tw Av
def stepR (k v:Bs)(acc:List Ent × Bool)(x:Ent):List Ent × Bool:=
 let a:=if acc.2=false/\blt x.key k=false then (acc.1++[(⟨k,v⟩:Ent)],true) else acc
 if x.key=k then a else (a.1++[x],a.2)
def outR (l:List Ent)(k v:Bs):List Ent:=
 let a:=l.foldl (stepR k v) ([],false)
 if a.2=true then a.1 else a.1++[(⟨k,v⟩:Ent)]
def putRE (l:List Ent)(k v:Bs):Int:=if 400 < k.length\/4000 < v.length then 11 else if (getR l k).isSome=false/\2000<=l.length then 15 else 0
def putRA (l:List Ent)(k v:Bs):AV:=if putRE l k v=0 then .sl 2 ((outR l k v).map entA) none else nils
set_option maxHeartbeats 2000000 in
instance fnRPut {l:List Ent}{k v:Bs}{xs:List AV}{id:Option Value}[hx:Ents xs l]:Ans Tryz.prog GL 42 [.sl 2 xs id,str k,str v] (l.length<=1073741823) (.tup [putRA l k v,int (putRE l k v)]):=⟨fun hl=>by
 have h:=hx.out
 subst h
 refine qE Tryz.func42 rfl Tryz.ntmps42 rfl (fun _ hs=>?_)
 repeat' first|refine Wz ?_|intro _
 refine gu1 (fun h1=>?_) (fun h1=>?_)
 ·repeat' first|refine Wz ?_|intro _
  refine reE ?_
  have hh:400 < k.length:=by omega
  have:putRE l k v=11:=by simp [putRE,hh]
  simp [outOf,putRA,this]
 ·repeat' first|refine Wz ?_|intro _
  refine ac_cond (fun h2=>?_) (fun h2=>?_)
  ·repeat' first|refine Wz ?_|intro _
   refine reE ?_
   have hh:4000 < v.length:=by omega
   have:putRE l k v=11:=by simp [putRE,hh]
   simp [outOf,putRA,this]
  ·repeat' first|refine Wz ?_|intro _
   have hne:¬ (400 < k.length\/4000 < v.length):=by omega
   have hmain:∀ hok:putRE l k v=0,putRA l k v=.sl 2 ((outR l k v).map entA) none:=fun hok=>by simp [putRA,hok]
   refine gu2 (fun hg=>?_) (fun hg=>?_)
   focus
    repeat' first|refine Wz ?_|intro _
    refine ac_cond (fun h4=>?_) (fun h4=>?_)
    focus
     repeat' first|refine Wz ?_|intro _
     refine reE ?_
     have e1:putRE l k v=15:=by
      have h5:2000<=l.length:=by simp at h4;omega
      have h6:(getR l k).isSome=false:=by simpa using hg
      simp only [putRE,if_neg hne,h6,h5,and_self,if_true]
     simp [outOf,putRA,e1]
    have hok:putRE l k v=0:=by
     have h5:¬ 2000<=l.length:=by simp at h4;omega
     simp only [putRE,if_neg hne,h5,and_false,if_false]
   rotate_left
   focus
    have hok:putRE l k v=0:=by
     have h6:(getR l k).isSome=true:=by simpa using hg
     simp [putRE,hne,h6]
   all_goals
    rw [hmain hok,hok]
    repeat' first|refine Wz ?_|intro _
   all_goals
    refine ac_as 10 (Imp.nil (k:=2)) ?_
    refine ac_st (fun ok w h=>h.full 95 2 none 0) ?_
    refine ac_loop (α:=Nat × Value × (List Ent × Bool)) (fun q=>[(0,.sl 2 (l.map entA) id),(1,str k),(2,str v),(10,.sl 2 (q.2.2.1.map entA) (some q.2.1)),(11,boo q.2.2.2),(12,int q.1)]) (fun q=>[.tail 95 2 q.2.1])
     (fun q=>q.1<=l.length/\q.2.2.1.length<=2 * q.1/\(l.drop q.1).foldl (stepR k v) q.2.2=l.foldl (stepR k v) ([],false)) (fun q=>l.length - q.1) (0,.slice none 0 0,[],false) ⟨rfl,rfl,rfl,rfl,rfl,rfl,trivial⟩ slr ⟨Nat.zero_le _,by simp,rfl⟩ ?_
    rintro⟨i,u,done,b⟩ ⟨g1,g2,g3⟩
    dsimp only at g1 g2 g3 ⊢
    repeat' first|refine Wz ?_|intro _
    refine ac_cond (fun hlt=>?_) (fun hlt=>?_)
    focus
     have hlt':i < l.length:=by simpa using hlt
     rw [List.drop_eq_getElem_cons hlt',List.foldl_cons] at g3
     cases b
     focus
      repeat' first|refine Wz ?_|intro _
      refine al_idxM i hlt' ?_
      repeat' first|refine Wz ?_|intro _
      refine ac_condB (fun hb=>?_) (fun hb=>?_)
      focus
       repeat' first|refine Wz ?_|intro _
       refine al_append (fun u'=>?_)
       repeat' first|refine Wz ?_|intro _
       refine al_idxM i hlt' ?_
       repeat' first|refine Wz ?_|intro _
       have hb':blt l[i].key k=false:=by simpa using hb
       refine ac_cond (fun hk=>?_) (fun hk=>?_)
       focus
        repeat' first|refine Wz ?_|intro _
        refine al_idxM i hlt' ?_
        repeat' first|refine Wz ?_|intro _
        refine al_append (fun u''=>?_)
        repeat' first|refine Wz ?_|intro _
        have e:stepR k v (done,false) l[i]=(done++[(⟨k,v⟩:Ent)]++[l[i]],true):=by simp [stepR,hb',hk]
        rw [e] at g3
        refine ae_as 10 (v':=.sl 2 ((done++[(⟨k,v⟩:Ent)]++[l[i]]).map entA) (some u'')) (Imp.of_eq ?_) ?_
        focus simp
        exact ae_round (i + 1,u'',done++[(⟨k,v⟩:Ent)]++[l[i]],true) ⟨rfl,rfl,rfl,rfl,rfl,rfl,trivial⟩ slr ⟨hlt',by simp;omega,g3⟩ (by simp only;omega)
       have hk':l[i].key=k:=by simpa using hk
       repeat' first|refine Wz ?_|intro _
       have e:stepR k v (done,false) l[i]=(done++[(⟨k,v⟩:Ent)],true):=by simp [stepR,hb',if_pos hk']
       rw [e] at g3
       refine ae_as 10 (v':=.sl 2 ((done++[(⟨k,v⟩:Ent)]).map entA) (some u')) (Imp.of_eq ?_) ?_
       focus simp
       exact ae_round (i + 1,u',done++[(⟨k,v⟩:Ent)],true) ⟨rfl,rfl,rfl,rfl,rfl,rfl,trivial⟩ slr ⟨hlt',by simp;omega,g3⟩ (by simp only;omega)
      repeat' first|refine Wz ?_|intro _
      refine al_idxM i hlt' ?_
      repeat' first|refine Wz ?_|intro _
      have hb':blt l[i].key k=true:=by simpa using hb
      refine ac_cond (fun hk=>?_) (fun hk=>?_)
      focus
       repeat' first|refine Wz ?_|intro _
       refine al_idxM i hlt' ?_
       repeat' first|refine Wz ?_|intro _
       refine al_append (fun u''=>?_)
       repeat' first|refine Wz ?_|intro _
       have e:stepR k v (done,false) l[i]=(done++[l[i]],false):=by simp [stepR,hb',hk]
       rw [e] at g3
       refine ae_as 10 (v':=.sl 2 ((done++[l[i]]).map entA) (some u'')) (Imp.of_eq ?_) ?_
       focus simp
       exact ae_round (i + 1,u'',done++[l[i]],false) ⟨rfl,rfl,rfl,rfl,rfl,rfl,trivial⟩ slr ⟨hlt',by simp;omega,g3⟩ (by simp only;omega)
      have hk':l[i].key=k:=by simpa using hk
      repeat' first|refine Wz ?_|intro _
      have e:stepR k v (done,false) l[i]=(done,false):=by simp [stepR,hb',if_pos hk']
      rw [e] at g3
      exact ae_round (i + 1,u,done,false) ⟨rfl,rfl,rfl,rfl,rfl,rfl,trivial⟩ slr ⟨hlt',by simp;omega,g3⟩ (by simp only;omega)
     repeat' first|refine Wz ?_|intro _
     refine al_idxM i hlt' ?_
     repeat' first|refine Wz ?_|intro _
     refine ac_cond (fun hk=>?_) (fun hk=>?_)
     focus
      repeat' first|refine Wz ?_|intro _
      refine al_idxM i hlt' ?_
      repeat' first|refine Wz ?_|intro _
      refine al_append (fun u''=>?_)
      repeat' first|refine Wz ?_|intro _
      have e:stepR k v (done,true) l[i]=(done++[l[i]],true):=by simp [stepR,hk]
      rw [e] at g3
      refine ae_as 10 (v':=.sl 2 ((done++[l[i]]).map entA) (some u'')) (Imp.of_eq ?_) ?_
      focus simp
      exact ae_round (i + 1,u'',done++[l[i]],true) ⟨rfl,rfl,rfl,rfl,rfl,rfl,trivial⟩ slr ⟨hlt',by simp;omega,g3⟩ (by simp only;omega)
     have hk':l[i].key=k:=by simpa using hk
     repeat' first|refine Wz ?_|intro _
     have e:stepR k v (done,true) l[i]=(done,true):=by simp [stepR,hk']
     rw [e] at g3
     exact ae_round (i + 1,u,done,true) ⟨rfl,rfl,rfl,rfl,rfl,rfl,trivial⟩ slr ⟨hlt',by simp;omega,g3⟩ (by simp only;omega)
    rw [List.drop_of_length_le (by simpa using hlt),List.foldl_nil] at g3
    cases b
    focus
     repeat' first|refine Wz ?_|intro _
     refine al_append (fun u''=>?_)
     repeat' first|refine Wz ?_|intro _
     refine ae_as 6 Imp.sl ?_
     refine reE ?_
     have e:outR l k v=done++[(⟨k,v⟩:Ent)]:=by simp [outR,<- g3]
     rw [e]
     simp [outOf]
    repeat' first|refine Wz ?_|intro _
    refine ae_as 6 Imp.sl ?_
    refine reE ?_
    have e:outR l k v=done:=by simp [outR,<- g3]
    rw [e]
    rfl⟩

def putRS (d:List Ent)(x:Ent):List Ent:=if putRE d x.key x.val=0 then outR d x.key x.val else d

theorem blt_irrefl:∀ a:Bs,blt a a=false
 | []=>rfl
 | a::x=>by simp [blt,Op.bytesLess] at *;exact blt_irrefl x
theorem blt_trans:∀ {a b c:Bs},blt a b=true->blt b c=true->blt a c=true
 | _,[],_,h,_=>by cases ‹List UInt8› <;> simp [blt,Op.bytesLess] at h
 | _,_::_,[],_,h=>by simp [blt,Op.bytesLess] at h
 | [],_::_,_::_,_,_=>by simp [blt,Op.bytesLess]
 | a::x,b::y,c::z,h,k=>by
  simp only [blt,Op.bytesLess,Bool.or_eq_true,Bool.and_eq_true,beq_iff_eq,decide_eq_true_eq] at h k ⊢
  rcases h with h|⟨rfl,h⟩
  ·rcases k with k|⟨rfl,k⟩
   ·exact .inl (UInt8.lt_trans h k)
   ·exact .inl h
  ·rcases k with k|⟨rfl,k⟩
   ·exact .inl k
   ·exact .inr ⟨rfl,blt_trans h k⟩
theorem blt_total:∀ {a b:Bs},blt a b=false->blt b a=false->a=b
 | [],[],_,_=>rfl
 | [],_::_,h,_=>by simp [blt,Op.bytesLess] at h
 | _::_,[],_,h=>by simp [blt,Op.bytesLess] at h
 | a::x,b::y,h,k=>by
  simp only [blt,Op.bytesLess,Bool.or_eq_false_iff,decide_eq_false_iff_not,UInt8.not_lt,Bool.and_eq_false_iff] at h k
  obtain rfl:a=b:=UInt8.le_antisymm k.1 h.1
  have h2:=h.2
  have k2:=k.2
  simp at h2 k2
  rw [blt_total h2 k2]
theorem blt_asymm {a b:Bs}(h:blt a b=true):blt b a=false:=by
 cases hb:blt b a with
 | false=>rfl
 | true=>rw [<- blt_irrefl a];exact (blt_trans h hb).symm
theorem blt_ne {a b:Bs}(h:blt a b=true):a≠b:=fun e=>by rw [e,blt_irrefl] at h;cases h
theorem cb_lt:∀ {a b:Bs},Lib.compareBytes a b < 0↔blt a b=true
 | [],[]=>by simp [Lib.compareBytes,blt,Op.bytesLess]
 | [],_::_=>by simp [Lib.compareBytes,blt,Op.bytesLess]
 | _::_,[]=>by simp [Lib.compareBytes,blt,Op.bytesLess]
 | a::x,b::y=>by
  unfold Lib.compareBytes blt Op.bytesLess
  by_cases h:a < b
  ·simp [h]
  ·by_cases k:b < a
   ·have hne:a≠b:=fun e=>by subst e;exact UInt8.lt_irrefl _ k
    simp [h,k,hne]
   ·obtain rfl:a=b:=UInt8.le_antisymm (UInt8.not_lt.1 k) (UInt8.not_lt.1 h)
    simp only [h,if_false,cb_lt,blt]
    simp
theorem cb_eq0:∀ {a b:Bs},Lib.compareBytes a b=0↔a=b
 | [],[]=>by simp [Lib.compareBytes]
 | [],_::_=>by simp [Lib.compareBytes]
 | _::_,[]=>by simp [Lib.compareBytes]
 | a::x,b::y=>by
  unfold Lib.compareBytes
  by_cases h:a < b
  ·have hne:a≠b:=fun e=>by subst e;exact UInt8.lt_irrefl _ h
   simp [h,hne]
  ·by_cases k:b < a
   ·have hne:a≠b:=fun e=>by subst e;exact UInt8.lt_irrefl _ k
    simp [h,k,hne]
   ·obtain rfl:a=b:=UInt8.le_antisymm (UInt8.not_lt.1 k) (UInt8.not_lt.1 h)
    simp only [h,if_false,cb_eq0]
    simp
theorem scmp_cb (a b:Bs):scmp a b=Lib.compareBytes a b:=Lib.cmp_eq _ _
theorem scmp_lt {a b:Bs}:scmp a b < 0↔blt a b=true:=by rw [scmp_cb];exact cb_lt
theorem scmp_eq0 {a b:Bs}:scmp a b=0↔a=b:=by rw [scmp_cb];exact cb_eq0
def Srt (l:List Ent):Prop:=l.Pairwise fun x y=>blt x.key y.key=true
theorem Srt.lo {l:List Ent}{k:Bs}(h:Srt l){i j:Nat}(hij:i<=j)(hj:j < l.length)(hk:blt l[j].key k=true):blt (l[i]'(by omega)).key k=true:=by
 rcases Nat.lt_or_ge i j with hlt|hge
 ·exact blt_trans (List.pairwise_iff_getElem.1 h i j (by omega) hj hlt) hk
 ·obtain rfl:i=j:=by omega
  exact hk
theorem bsF_spec {l:List Ent}{k:Bs}(h:Srt l):∀ (f i j:Nat),j - i<=f->i<=j->(hj:j<=l.length)->(∀ q,(hq:q < l.length)->q < i->blt l[q].key k=true)->(∀ q,(hq:q < l.length)->j<=q->blt l[q].key k=false) ->
  (∀ q,(hq:q < l.length)->(blt l[q].key k=true↔q < bsF l k f i j))/\bsF l k f i j<=l.length
 | 0,i,j,hf,hij,hj,h1,h2=>by
  obtain rfl:i=j:=by omega
  refine⟨fun q hq=>⟨fun hb=>?_,fun hb=>h1 q hq hb⟩,hj⟩
  rcases Nat.lt_or_ge q i with g|g
  ·exact g
  ·rw [h2 q hq g] at hb;cases hb
 | f + 1,i,j,hf,hij,hj,h1,h2=>by
  unfold bsF
  by_cases hlt:i < j
  ·rw [if_pos hlt]
   have hm:(i + j) / 2 < l.length:=by omega
   have hgd:l.getD ((i + j) / 2) ⟨[],[]⟩=l[(i + j) / 2]:=by simp [List.getD,hm]
   simp only [hgd]
   by_cases hc:scmp l[(i + j) / 2].key k < 0
   ·rw [if_pos hc]
    have hb:=scmp_lt.1 hc
    exact bsF_spec h f _ _ (by omega) (by omega) hj (fun q hq hqi=>h.lo (by omega) hm hb) h2
   ·rw [if_neg hc]
    have hb:blt l[(i + j) / 2].key k=false:=by
     cases e:blt l[(i + j) / 2].key k with
     | false=>rfl
     | true=>exact absurd (scmp_lt.2 e) hc
    refine bsF_spec h f _ _ (by omega) (by omega) (by omega) h1 (fun q hq hqi=>?_)
    cases e:blt l[q].key k with
    | false=>rfl
    | true=>rw [h.lo hqi hq e] at hb;cases hb
  ·rw [if_neg hlt]
   obtain rfl:i=j:=by omega
   refine⟨fun q hq=>⟨fun hb=>?_,fun hb=>h1 q hq hb⟩,hj⟩
   rcases Nat.lt_or_ge q i with g|g
   ·exact g
   ·rw [h2 q hq g] at hb;cases hb
theorem bs_split {l:List Ent}{k:Bs}(h:Srt l):(∀ x ∈ l.take (bsAt l k),blt x.key k=true)/\(∀ x ∈ l.drop (bsAt l k),blt x.key k=false):=by
 obtain⟨g,_⟩:=bsF_spec (k:=k) h l.length 0 l.length (by omega) (by omega) (Nat.le_refl _) (by intros;omega) (by intros;omega)
 refine⟨fun x hx=>?_,fun x hx=>?_⟩
 ·obtain⟨q,hq,rfl⟩:=List.mem_iff_getElem.1 hx
  have h1:q < bsAt l k/\q < l.length:=by simpa [List.length_take,Nat.lt_min] using hq
  rw [List.getElem_take]
  exact (g q h1.2).2 h1.1
 ·obtain⟨q,hq,rfl⟩:=List.mem_iff_getElem.1 hx
  have h1:q < l.length - bsAt l k:=by simpa [List.length_drop] using hq
  rw [List.getElem_drop]
  have h2:bsAt l k + q < l.length:=by omega
  cases e:blt l[bsAt l k + q].key k with
  | false=>rfl
  | true=>
   have:bsAt l k + q < bsAt l k:=(g _ h2).1 e
   omega
theorem Srt.append {a b:List Ent}:Srt (a++b)↔Srt a/\Srt b/\∀ x ∈ a,∀ y ∈ b,blt x.key y.key=true:=List.pairwise_append
theorem Srt.cons {x:Ent}{b:List Ent}:Srt (x::b)↔(∀ y ∈ b,blt x.key y.key=true)/\Srt b:=List.pairwise_cons
theorem bs_parts {l:List Ent}(k:Bs)(h:Srt l):∃ A B:List Ent,(∀ x ∈ A,blt x.key k=true)/\(∀ x ∈ B,blt k x.key=true)/\bsAt l k=A.length /\
  ((bsIs l k=false/\l=A++B)\/∃ v,bsIs l k=true/\l=A++⟨k,v⟩::B):=by
 obtain⟨h1,h2⟩:=bs_split (k:=k) h
 have hle:bsAt l k<=l.length:=(bsF_spec (k:=k) h l.length 0 l.length (by omega) (by omega) (Nat.le_refl _) (by intros;omega) (by intros;omega)).2
 have hl:(l.take (bsAt l k)).length=bsAt l k:=by simp;omega
 by_cases hn:bsAt l k < l.length
 ·have hd:l.drop (bsAt l k)=l[bsAt l k]::l.drop (bsAt l k + 1):=List.drop_eq_getElem_cons hn
  have hgd:l.getD (bsAt l k) ⟨[],[]⟩=l[bsAt l k]:=by simp [List.getD,hn]
  have hs:Srt (l[bsAt l k]::l.drop (bsAt l k + 1)):=by
   rw [<- hd]
   exact List.Pairwise.sublist (List.drop_sublist _ _) h
  rw [Srt.cons] at hs
  by_cases hk:l[bsAt l k].key=k
  ·refine⟨l.take (bsAt l k),l.drop (bsAt l k + 1),h1,fun x hx=>?_,hl.symm,.inr ⟨l[bsAt l k].val,?_,?_⟩⟩
   ·have:=hs.1 x hx
    rwa [hk] at this
   ·simp only [bsIs,hn,decide_true,Bool.true_and,hgd,decide_eq_true_eq]
    exact scmp_eq0.2 hk
   ·have:∀ y:Ent,y.key=k->(⟨k,y.val⟩:Ent)=y:=fun y hy=>by subst hy;rfl
    rw [this _ hk,<- hd,List.take_append_drop]
  ·refine⟨l.take (bsAt l k),l.drop (bsAt l k),h1,fun x hx=>?_,hl.symm,.inl ⟨?_,(List.take_append_drop _ _).symm⟩⟩
   ·rw [hd] at hx
    have hb:=h2 l[bsAt l k] (by rw [hd];exact List.mem_cons_self)
    have hk2:blt k l[bsAt l k].key=true:=by
     cases e:blt k l[bsAt l k].key with
     | true=>rfl
     | false=>exact absurd (blt_total hb e) hk
    rcases List.mem_cons.1 hx with rfl|hx
    ·exact hk2
    ·exact blt_trans hk2 (hs.1 x hx)
   ·have:¬ scmp l[bsAt l k].key k=0:=fun e=>hk (scmp_eq0.1 e)
    simp only [bsIs,hn,decide_true,Bool.true_and,hgd,this,decide_false]
 ·refine⟨l,[],fun x hx=>h1 x (by rw [List.take_of_length_le (by omega)];exact hx),by simp,by omega,.inl ⟨by simp [bsIs,hn],by simp⟩⟩
theorem set_mid {α:Type}(A B:List α)(x y:α):(A++x::B).set A.length y=A++y::B:=by
 rw [List.set_append,if_neg (by omega),Nat.sub_self,List.set_cons_zero]
theorem getD_mid {α:Type}(A B:List α)(x d:α):(A++x::B).getD A.length d=x:=by
 simp [List.getD]
theorem putL_parts {l A B:List Ent}{k:Bs}(v:Bs)(hl:bsAt l k=A.length)(h:(bsIs l k=false/\l=A++B)\/∃ v,bsIs l k=true/\l=A++⟨k,v⟩::B):putL l k v=A++⟨k,v⟩::B:=by
 unfold putL
 rw [hl]
 rcases h with⟨h1,h2⟩|⟨u,h1,h2⟩
 ·rw [if_neg (by simp [h1])]
  subst h2
  simp
 ·rw [if_pos h1]
  subst h2
  rw [getD_mid,set_mid]
theorem stepR_below {k v:Bs}:∀ (A:List Ent) (acc:List Ent),(∀ x ∈ A,blt x.key k=true)->A.foldl (stepR k v) (acc,false)=(acc++A,false)
 | [],acc,_=>by simp
 | x::A,acc,h=>by
  have hx:=h x (by simp)
  have e:stepR k v (acc,false) x=(acc++[x],false):=by simp [stepR,hx,blt_ne hx]
  rw [List.foldl_cons,e,stepR_below A _ (fun y hy=>h y (by simp [hy]))]
  simp
theorem stepR_above {k v:Bs}:∀ (B:List Ent) (acc:List Ent),(∀ x ∈ B,blt k x.key=true)->B.foldl (stepR k v) (acc,true)=(acc++B,true)
 | [],acc,_=>by simp
 | x::B,acc,h=>by
  have hx:=h x (by simp)
  have e:stepR k v (acc,true) x=(acc++[x],true):=by simp [stepR,(blt_ne hx).symm]
  rw [List.foldl_cons,e,stepR_above B _ (fun y hy=>h y (by simp [hy]))]
  simp
theorem outR_parts {l A B:List Ent}{k:Bs}(v:Bs)(hA:∀ x ∈ A,blt x.key k=true)(hB:∀ x ∈ B,blt k x.key=true)(h:l=A++B\/∃ v,l=A++⟨k,v⟩::B):outR l k v=A++⟨k,v⟩::B:=by
 unfold outR
 rcases h with rfl|⟨u,rfl⟩
 ·rw [List.foldl_append,stepR_below A [] hA,List.nil_append]
  cases B with
  | nil=>simp
  | cons y B=>
   have hy:=hB y (by simp)
   have e:stepR k v (A,false) y=(A++[⟨k,v⟩]++[y],true):=by simp [stepR,blt_asymm hy,(blt_ne hy).symm]
   rw [List.foldl_cons,e,stepR_above B _ (fun x hx=>hB x (by simp [hx]))]
   simp
 ·rw [List.foldl_append,stepR_below A [] hA,List.nil_append,List.foldl_cons]
  have e:stepR k v (A,false) ⟨k,u⟩=(A++[⟨k,v⟩],true):=by simp [stepR,blt_irrefl]
  rw [e,stepR_above B _ hB]
  simp
theorem getR_parts {A B:List Ent}{k:Bs}(hA:∀ x ∈ A,blt x.key k=true)(hB:∀ x ∈ B,blt k x.key=true):getR (A++B) k=none/\∀ v,getR (A++⟨k,v⟩::B) k=some ⟨k,v⟩:=by
 have h1:getR A k=none:=by
  simp only [getR,List.find?_eq_none,decide_eq_true_eq]
  exact fun x hx=>blt_ne (hA x hx)
 have h2:getR B k=none:=by
  simp only [getR,List.find?_eq_none,decide_eq_true_eq]
  exact fun x hx=>(blt_ne (hB x hx)).symm
 unfold getR at *
 exact⟨by rw [List.find?_append,h1,h2];rfl,fun v=>by rw [List.find?_append,h1];simp⟩
theorem getR_bsIs {l:List Ent}{k:Bs}(h:Srt l):(getR l k).isSome=bsIs l k:=by
 obtain⟨A,B,hA,hB,_,h1⟩:=bs_parts k h
 have hg:=getR_parts hA hB
 rcases h1 with⟨h1,rfl⟩|⟨v,h1,rfl⟩
 ·rw [h1,hg.1];rfl
 ·rw [h1,hg.2];rfl
theorem Srt.put {l:List Ent}{k:Bs}(v:Bs)(h:Srt l):Srt (putL l k v):=by
 obtain⟨A,B,hA,hB,hl,h1⟩:=bs_parts k h
 rw [putL_parts v hl h1]
 have hab:Srt A/\Srt B:=by
  rcases h1 with⟨_,rfl⟩|⟨u,_,rfl⟩
  ·rw [Srt.append] at h;exact⟨h.1,h.2.1⟩
  ·rw [Srt.append,Srt.cons] at h;exact⟨h.1,h.2.1.2⟩
 rw [Srt.append,Srt.cons]
 refine⟨hab.1,⟨hB,hab.2⟩,fun x hx y hy=>?_⟩
 rcases List.mem_cons.1 hy with rfl|hy
 ·exact hA x hx
 ·exact blt_trans (hA x hx) (hB y hy)
theorem putE_eq {l:List Ent}{k:Bs}(v:Bs)(h:Srt l):putRE l k v=putE l k v:=by
 unfold putRE putE
 rw [getR_bsIs h]
 cases bsIs l k <;> simp
theorem putS_eq {l:List Ent}(x:Ent)(h:Srt l):putRS l x=putS l x:=by
 unfold putRS putS
 rw [putE_eq x.val h]
 split
 ·obtain⟨A,B,hA,hB,hl,h1⟩:=bs_parts x.key h
  rw [putL_parts x.val hl h1,outR_parts x.val hA hB (h1.imp (·.2) fun⟨v,_,h⟩=>⟨v,h⟩)]
 ·rfl
theorem srt_nil:Srt []:=List.Pairwise.nil
def Fits (l:List Ent):Prop:=∀ x ∈ l,x.key.length<=400/\x.val.length<=4000
theorem putS_fits {d:List Ent}(x:Ent)(h:Srt d)(hf:Fits d):Fits (putS d x):=by
 unfold putS
 split
 ·rename_i h0
  have hx:x.key.length<=400/\x.val.length<=4000:=by
   unfold putE at h0
   by_cases h1:400 < x.key.length\/4000 < x.val.length
   ·rw [if_pos h1] at h0;simp at h0
   ·omega
  obtain⟨A,B,_,_,hl,h1⟩:=bs_parts x.key h
  rw [putL_parts x.val hl h1]
  intro y hy
  have hy':y ∈ A\/y=x\/y ∈ B:=by simpa using hy
  have hsub:y ∈ A\/y ∈ B->y ∈ d:=by
   rcases h1 with⟨_,rfl⟩|⟨u,_,rfl⟩ <;> intro g <;> rcases g with g|g <;> simp [g]
  rcases hy' with g|rfl|g
  ·exact hf y (hsub (.inl g))
  ·exact hx
  ·exact hf y (hsub (.inr g))
 ·exact hf
theorem putS_last {d:List Ent}{x:Ent}(h:Srt (d++[x]))(hx:x.key.length<=400/\x.val.length<=4000)(hl:d.length < 2000):putS d x=d++[x]:=by
 have h':=h
 rw [Srt.append] at h'
 obtain⟨h1,_,h3⟩:=h'
 obtain⟨A,B,hA,hB,hl',h4⟩:=bs_parts x.key h1
 have hlt:∀ y ∈ d,blt y.key x.key=true:=fun y hy=>h3 y hy x (by simp)
 have hB0:B=[]:=by
  cases B with
  | nil=>rfl
  | cons y B=>
   have hy:y ∈ d:=by rcases h4 with⟨_,h4⟩|⟨u,_,h4⟩ <;> rw [h4] <;> simp
   have:=blt_asymm (hB y (by simp))
   rw [hlt y hy] at this
   cases this
 subst hB0
 have hA0:bsIs d x.key=false/\d=A++[]:=by
  rcases h4 with h4|⟨u,_,h4⟩
  ·exact h4
  ·have:=hlt ⟨x.key,u⟩ (by rw [h4];simp)
   rw [blt_irrefl] at this
   cases this
 unfold putS
 rw [putL_parts x.val hl' h4]
 have he:putE d x.key x.val=0:=by
  unfold putE
  rw [if_neg (by omega),hA0.1]
  simp
  omega
 rw [if_pos he]
 have:=hA0.2
 simp at this
 rw [<- this]
theorem foldPut_id:∀ (l d:List Ent),Srt (d++l)->Fits l->(d++l).length<=2000->l.foldl putS d=d++l
 | [],d,_,_,_=>by simp
 | x::l,d,h,hf,hl=>by
  have e:d++x::l=d++[x]++l:=by simp
  rw [List.foldl_cons,putS_last (x:=x) (by rw [e,Srt.append] at h;exact h.1) (hf x (by simp)) (by simp at hl;omega),e]
  exact foldPut_id l _ (by rw [<- e];exact h) (fun y hy=>hf y (by simp [hy])) (by rw [<- e];exact hl)
theorem dictOf_id {l:List Ent}(h:Srt l)(hf:Fits l)(hl:l.length<=2000):dictOf l=l:=by
 have:=foldPut_id l [] (by simpa using h) hf (by simpa using hl)
 simpa [dictOf] using this
theorem foldPut_len:∀ (l d:List Ent),d.length<=2000->(l.foldl putS d).length<=2000
 | [],_,h=>h
 | _::l,_,h=>foldPut_len l _ (putS_len h)

structure DOk (d:List Ent):Prop where
 s:Srt d
 f:Fits d
 l:d.length<=2000
def gO (d:List Ent)(k:Bs):Option Bs:=(getR d k).map (·.val)
def valE (d:List Ent)(k:Bs):Bs:=(gO d k).getD []
def drpL (d:List Ent)(k:Bs):List Ent:=if bsIs d k=true then d.take (bsAt d k)++d.drop (bsAt d k + 1) else d
theorem is_bs {d:List Ent}{k:Bs}(h:Srt d):bsIs d k=(gO d k).isSome:=by rw [gO,Option.isSome_map,getR_bsIs h]
theorem val_bs {d:List Ent}{k:Bs}(h:Srt d):(if bsIs d k=true then (d.getD (bsAt d k) ⟨[],[]⟩).val else [])=valE d k:=by
 obtain⟨A,B,hA,hB,hl,h1⟩:=bs_parts k h
 have hg:=getR_parts hA hB
 rcases h1 with⟨h1,rfl⟩|⟨v,h1,rfl⟩
 ·rw [h1,if_neg (by simp),valE,gO,hg.1];rfl
 ·rw [h1,if_pos rfl,hl,getD_mid,valE,gO,hg.2];rfl
theorem gO_mid {A B:List Ent}{k v q:Bs}(hq:q≠k):gO (A++⟨k,v⟩::B) q=gO (A++B) q:=by
 unfold gO getR
 rw [List.find?_append,List.find?_append,List.find?_cons]
 have:decide ((⟨k,v⟩:Ent).key=q)=false:=dZ fun e=>hq e.symm
 rw [this]
theorem gO_put {d:List Ent}{k v q:Bs}(h:Srt d):gO (putL d k v) q=if q=k then some v else gO d q:=by
 obtain⟨A,B,hA,hB,hl,h1⟩:=bs_parts k h
 have hg:=getR_parts hA hB
 rw [putL_parts v hl h1]
 by_cases hq:q=k
 ·rw [if_pos hq,hq,gO,hg.2];rfl
 ·rw [if_neg hq,gO_mid hq]
  rcases h1 with⟨_,rfl⟩|⟨u,_,rfl⟩
  ·rfl
  ·rw [gO_mid hq]
theorem drp_parts {A B d:List Ent}{k:Bs}(hl:bsAt d k=A.length)(h1:(bsIs d k=false/\d=A++B)\/∃ v,bsIs d k=true/\d=A++⟨k,v⟩::B):drpL d k=A++B:=by
 unfold drpL
 rcases h1 with⟨h1,h2⟩|⟨v,h1,h2⟩
 ·rw [h1,if_neg (by simp),h2]
 ·rw [if_pos h1,hl]
  subst h2
  rw [List.take_append_of_le_length (Nat.le_refl _),List.take_length,List.drop_append,List.drop_of_length_le (by omega),show A.length + 1 - A.length=1 by omega]
  rfl
theorem gO_drp {d:List Ent}{k q:Bs}(h:Srt d):gO (drpL d k) q=if q=k then none else gO d q:=by
 obtain⟨A,B,hA,hB,hl,h1⟩:=bs_parts k h
 have hg:=getR_parts hA hB
 rw [drp_parts hl h1]
 by_cases hq:q=k
 ·rw [if_pos hq,hq,gO,hg.1];rfl
 ·rw [if_neg hq]
  rcases h1 with⟨_,rfl⟩|⟨u,_,rfl⟩
  ·rfl
  ·rw [gO_mid hq]
theorem valE_put {d:List Ent}{k v q:Bs}(h:Srt d):valE (putL d k v) q=if q=k then v else valE d q:=by
 unfold valE
 rw [gO_put h]
 split <;> rfl
theorem valE_drp {d:List Ent}{k q:Bs}(h:Srt d):valE (drpL d k) q=if q=k then [] else valE d q:=by
 unfold valE
 rw [gO_drp h]
 split <;> rfl
theorem drp_sub (d:List Ent)(k:Bs):(drpL d k).Sublist d:=by
 unfold drpL
 split
 ·conv=>rhs;rw [<- List.take_append_drop (bsAt d k) d]
  refine List.Sublist.append slr ?_
  rw [<- List.drop_drop]
  exact List.drop_sublist _ _
 ·exact List.Sublist.refl _
theorem DOk.drp {d:List Ent}(h:DOk d)(k:Bs):DOk (drpL d k):=
 ⟨List.Pairwise.sublist (drp_sub d k) h.s,fun x hx=>h.f x ((drp_sub d k).mem hx),Nat.le_trans (drp_sub d k).length_le h.l⟩
theorem DOk.put {d:List Ent}{k v:Bs}(h:DOk d)(he:putE d k v=0):DOk (putL d k v):=by
 have e:putL d k v=putS d ⟨k,v⟩:=by rw [putS,if_pos he]
 refine⟨h.s.put v,?_,?_⟩
 ·rw [e];exact putS_fits _ h.s h.f
 ·have:=foldPut_len [⟨k,v⟩] d h.l
  rw [e]
  exact this
theorem DOk.nil:DOk []:=⟨srt_nil,fun x hx=>(by cases hx),Nat.zero_le _⟩
theorem DOk.id {d:List Ent}(h:DOk d):dictOf d=d:=dictOf_id h.s h.f h.l
def putR (d:List Ent)(k v:Bs):List Ent × Int:=if putE d k v=0 then (putL d k v,0) else ([],putE d k v)
end Go.Proofs.YtlkkekpcofjbeaaGreatDoor
