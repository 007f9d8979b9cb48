/- proofs read, walked both ways -/
import Derived.Test.YtmadjfemenlamaaGreatDoorA16
import Derived.Test.YtmadjfemenlamaaGreatDoorA22
import Derived.Test.YtmadjfemenlamaaGreatDoorA23
import Derived.Test.YtmadjfemenlamaaGreatDoorA27
namespace Go.Proofs.YtmadjfemenlamaaGreatDoor
open Go Go.RowKit Tw Av
theorem quick_spec {s:Bs}(hl:s.length≤35184372088832):SpecE Tryz.prog GL 80 [str s] (hA (shaH s)):=by
 refine spec_enter Tryz.func80 rfl Tryz.ntmps80 rfl (fun _ hs=>?_)
 repeat' first|refine Wz ?_|intro _
 refine al_callP (args:=[tabA,str s]) (hc:=fnRSum) hl ?_
 repeat' first|refine Wz ?_|intro _
 refine reE ?_
 rfl
instance fnQuick {s:Bs}{n:Nat}[h:LenLe s n]:Ans Tryz.prog GL 80 [str s] (n≤35184372088832) (hA (shaH s)):=⟨fun hn=>quick_spec (Nat.le_trans h.out hn)⟩
theorem ofH3 (a b c:Bs):ofH [a,b,c]=shaH (a++b++c):=by simp [ofH]
instance fnRLeaf {a b:Bs}:Ans Tryz.prog GL 81 [.agg 2 [str a,str b]] True (hA (leafH ⟨a,b⟩)):=⟨fun _=>by
 refine spec_enter Tryz.func81 rfl Tryz.ntmps81 rfl (fun _ hs=>?_)
 repeat' first|refine Wz ?_|intro _
 refine reE ?_
 rw [leafH,ofH3]
 rfl⟩
instance fnRNode {a b:Hsh}:Ans Tryz.prog GL 82 [hA a,hA b] True (hA (nodeH a b)):=⟨fun _=>by
 refine spec_enter Tryz.func82 rfl Tryz.ntmps82 rfl (fun _ hs=>?_)
 repeat' first|refine Wz ?_|intro _
 refine reE ?_
 rw [nodeH,ofH3]
 rfl⟩
instance fnRTop {n:Int}{h:Hsh}:Ans Tryz.prog GL 37 [int n,hA h] (n≤9223372036854775807) (hA (topH n h)):=⟨fun hn=>by
 refine spec_enter Tryz.func37 rfl Tryz.ntmps37 rfl (fun _ hs=>?_)
 repeat' first|refine Wz ?_|intro _
 refine reE ?_
 rw [topH,ofH3]
 rfl⟩
theorem rtree_ans (n:Nat):n≤1000000→∀ {l:List Ent} {xs:List AV} {id:Option Value} [Ents xs l],Ans Tryz.prog GL 38 [.sl 2 xs id] (l.length≤n) (hA (treeH (l.map leafH))):=by
 induction n with
 | zero=>
  intro _ l xs id hx
  refine⟨fun hl=>?_⟩
  have h:=hx.out
  subst h
  obtain rfl:l=[]:=List.eq_nil_of_length_eq_zero (by omega)
  refine spec_enter Tryz.func38 rfl Tryz.ntmps38 rfl (fun _ hs=>?_)
  repeat' first|refine Wz ?_|intro _
  refine reE ?_
  rfl
 | succ n ih=>
  intro hn l xs id hx
  have ih:=@ih (by omega)
  refine⟨fun hl=>?_⟩
  have h:=hx.out
  subst h
  have hm:(l.map entA).length=l.length:=List.length_map _
  refine spec_enter Tryz.func38 rfl Tryz.ntmps38 rfl (fun _ hs=>?_)
  repeat' first|refine Wz ?_|intro _
  refine ac_cond (fun h0=>?_) (fun h0=>?_)
  ·obtain rfl:l=[]:=List.eq_nil_of_length_eq_zero (by omega)
   repeat' first|refine Wz ?_|intro _
   refine reE ?_
   rfl
  ·repeat' first|refine Wz ?_|intro _
   refine ac_cond (fun h1=>?_) (fun h1=>?_)
   ·obtain⟨x,rfl⟩:∃ x,l=[x]:=List.length_eq_one_iff.1 (by omega)
    repeat' first|refine Wz ?_|intro _
    refine al_idxM 0 (show 0 < [x].length by simp) ?_
    repeat' first|refine Wz ?_|intro _
    refine reE ?_
    rfl
   ·repeat' first|refine Wz ?_|intro _
    have hk0:(((l.map entA).length:Int) + 1) / 2=(((l.length + 1) / 2:Nat):Int):=by omega
    rw [hk0]
    have hst:=treeH_step (l.map leafH) (by rw [List.length_map];omega)
    rw [List.length_map,← List.map_take,← List.map_drop] at hst
    generalize hk:(l.length + 1) / 2=k at *
    apply obl_read [];exact rfl;exact rfl;kernel_rfl;intro _ _
    refine al_sliceD 0 k ?_
    exact al_nil (ae_got rfl rfl)
    repeat' first|refine Wz ?_|intro _
    apply obl_read [];exact rfl;exact rfl;kernel_rfl;intro _ _
    refine al_sliceD k l.length ?_
    exact al_nil (ae_got rfl rfl)
    repeat' first|refine Wz ?_|intro _
    refine reE ?_
    rw [hst,List.drop_zero,List.take_length]
    rfl
instance fnRTree {l:List Ent}{xs:List AV}{id:Option Value}[Ents xs l]:Ans Tryz.prog GL 38 [.sl 2 xs id] (l.length≤1000000) (hA (treeH (l.map leafH))):=rtree_ans 1000000 (Nat.le_refl _)
instance fnRRoot {d:List Ent}{xs:List AV}{id:Option Value}[hx:Ents xs d]:Ans Tryz.prog GL 19 [.sl 2 xs id] (d.length≤1000000) (hA (topH d.length (treeH (d.map leafH)))):=⟨fun hl=>by
 have h:=hx.out
 subst h
 have hm:(d.map leafH).length=d.length:=List.length_map _
 have hm2:(d.map entA).length=d.length:=List.length_map _
 refine spec_enter Tryz.func19 rfl Tryz.ntmps19 rfl (fun _ hs=>?_)
 repeat' first|refine Wz ?_|intro _
 refine reE ?_
 rw [← hm2]
 rfl⟩
end Go.Proofs.YtmadjfemenlamaaGreatDoor

namespace Go.Proofs.YtmadjfemenlamaaGreatDoor
open Go Go.RowKit Tw Av
def upH:List WayStep→Hsh→List Hsh→Hsh
 | [],h,_=>h
 | t::ts,h,p=>if t.1=true then nodeH (upH ts h p.dropLast) (p.getLastD zeroH) else nodeH (p.getLastD zeroH) (upH ts h p.dropLast)
def foldH (n i:Int)(h:Hsh)(p:List Hsh):Option Hsh:=if i < 0∨n≤i∨2000 < n∨(wayOf n i).length≠p.length then none else some (topH n (upH (wayOf n i) h p))
theorem turns_len:∀ (f n i:Nat),n≤f→(turns n i).length≤n
 | 0,n,i,h=>by
  obtain rfl:n=0:=by omega
  simp [turns,turnsF]
 | f + 1,n,i,h=>by
  by_cases hn:1 < n
  ·rw [turns_step n i hn,List.length_cons]
   split
   ·have:=turns_len f ((n + 1) / 2) i (by omega)
    omega
   ·have:=turns_len f (n - (n + 1) / 2) (i - (n + 1) / 2) (by omega)
    omega
  ·obtain rfl|rfl:n=0∨n=1:=by omega
   ·simp [turns,turnsF]
   ·simp [turns_one]
theorem way_eq {n i:Nat}(h:i < n)(hn:n≤2000):wayOf (n:Int) (i:Int)=turns n i:=by
 unfold wayOf
 rw [if_neg (by omega)]
 simp
theorem getLastD_append {α:Type}(l:List α)(x z:α):(l++[x]).getLastD z=x:=by simp [List.getLastD_eq_getLast?]
theorem upH_snoc (t:WayStep)(ts:List WayStep)(h x:Hsh)(p:List Hsh):upH (t::ts) h (p++[x])=if t.1=true then nodeH (upH ts h p) x else nodeH x (upH ts h p):=by
 rw [upH,List.dropLast_concat,getLastD_append]
theorem way_row {n i:Nat}(_h:i < n)(hn:1 < n):turns n i=(decide (i < (n + 1) / 2),(n + 1) / 2,n - (n + 1) / 2)::turns (if i < (n + 1) / 2 then (n + 1) / 2 else n - (n + 1) / 2) (if i < (n + 1) / 2 then i else i - (n + 1) / 2):=by
 rw [turns_step n i hn]
 split <;> rfl
end Go.Proofs.YtmadjfemenlamaaGreatDoor

namespace Go.Proofs.YtmadjfemenlamaaGreatDoor
open Go Go.RowKit Tw Av
theorem bad_fold {n i:Int}{h:Hsh}{p:List Hsh}(hb:i < 0∨n≤i∨2000 < n∨(wayOf n i).length≠p.length):foldH n i h p=none:=if_pos hb
theorem good_fold {n i:Int}{h:Hsh}{p:List Hsh}(hb:¬ (i < 0∨n≤i∨2000 < n∨(wayOf n i).length≠p.length)):foldH n i h p=some (topH n (upH (wayOf n i) h p)):=if_neg hb
instance fnFold {n i:Int}{h:Hsh}{p:List Hsh}{xs:List AV}{id:Option Value}[hx:Hshs xs p]:Ans Tryz.prog GL 361 [int n,int i,hA h,.sl 32 xs id] (n≤9223372036854775807) (.tup [hA ((foldH n i h p).getD zeroH),boo (foldH n i h p).isSome]):=⟨fun hn=>by
 have hh:=hx.out
 subst hh
 have hmp:(p.map hA).length=p.length:=List.length_map _
 have hmt:((wayOf n i).map trA).length=(wayOf n i).length:=List.length_map _
 refine spec_enter Tryz.func361 rfl Tryz.ntmps361 rfl (fun _ hs=>?_)
 repeat' first|refine Wz ?_|intro _
 refine gu1 (fun h1=>?_) (fun h1=>?_)
 ·repeat' first|refine Wz ?_|intro _
  refine reE ?_
  rw [bad_fold (.inl h1)]
  rfl
 ·repeat' first|refine Wz ?_|intro _
  refine gu1 (fun h2=>?_) (fun h2=>?_)
  ·repeat' first|refine Wz ?_|intro _
   refine reE ?_
   rw [bad_fold (.inr (.inl h2))]
   rfl
  ·repeat' first|refine Wz ?_|intro _
   refine gu1 (fun h3=>?_) (fun h3=>?_)
   ·repeat' first|refine Wz ?_|intro _
    refine reE ?_
    rw [bad_fold (.inr (.inr (.inl h3)))]
    rfl
   ·repeat' first|refine Wz ?_|intro _
    refine ac_cond (fun h4=>?_) (fun h4=>?_)
    ·repeat' first|refine Wz ?_|intro _
     refine reE ?_
     rw [bad_fold (.inr (.inr (.inr (by omega))))]
     rfl
    ·have hgd:=good_fold (h:=h) (show ¬ (i < 0∨n≤i∨2000 < n∨(wayOf n i).length≠p.length) by omega)
     rw [hgd]
     have hm:(wayOf n i).length=p.length:=by omega
     have hpl:p.length≤2000:=by
      rw [← hm]
      unfold wayOf
      split
      ·simp
      ·exact Nat.le_trans (turns_len _ _ _ (Nat.le_refl _)) (by omega)
     generalize wayOf n i=ts at *
     repeat' first|refine Wz ?_|intro _
     rename_i g6 g8 g11
     refine ac_loop (α:=Nat) (fun j=>[(0,int n),(6,ptr g6),(8,ptr g8),(10,.sl 3 (ts.map trA) none),(11,ptr g11),(37,.sl 32 (p.map hA) id),(38,int (p.map hA).length),(39,int j)]) (fun j=>[.var g11 49 (hA (upH (ts.drop (p.length - j)) h (p.take j))),.var g8 49 (hA zeroH)])
      (fun j=>j≤p.length) (fun j=>p.length - j) 0 ⟨rfl,rfl,rfl,rfl,rfl,rfl,rfl,rfl,trivial⟩ ?_ (Nat.zero_le _) ?_
     ·rw [Nat.sub_zero,← hm,List.drop_length,upH]
      exact sbl
     intro j hj
     repeat' first|refine Wz ?_|intro _
     refine ac_cond (fun hlt=>?_) (fun hlt=>?_)
     ·have hjp:j < p.length:=by omega
      have hjt:p.length - 1 - j < ts.length:=by omega
      have hst:upH (ts.drop (p.length - (j + 1))) h (p.take (j + 1))=if ts[p.length - 1 - j].1=true then nodeH (upH (ts.drop (p.length - j)) h (p.take j)) p[j] else nodeH p[j] (upH (ts.drop (p.length - j)) h (p.take j)):=by
       rw [show p.length - (j + 1)=p.length - 1 - j by omega,List.drop_eq_getElem_cons hjt,List.take_succ_eq_append_getElem hjp,upH_snoc,show p.length - 1 - j + 1=p.length - j by omega]
      repeat' first|refine Wz ?_|intro _
      refine al_idxM (l:=p) (f:=hA) j hjp ?_
      repeat' first|refine Wz ?_|intro _
      refine al_idxM (l:=ts) (f:=trA) (p.length - 1 - j) hjt ?_
      repeat' first|refine Wz ?_|intro _
      refine ac_condB (fun hb=>?_) (fun hb=>?_)
      ·rw [if_pos hb] at hst
       repeat' first|refine Wz ?_|intro _
       refine ae_round (j + 1) ⟨rfl,rfl,rfl,rfl,rfl,rfl,rfl,rfl,trivial⟩ ?_ hjp (by omega)
       rw [hst]
       exact sbl
      ·rw [if_neg (by rw [hb];simp)] at hst
       repeat' first|refine Wz ?_|intro _
       refine ae_round (j + 1) ⟨rfl,rfl,rfl,rfl,rfl,rfl,rfl,rfl,trivial⟩ ?_ hjp (by omega)
       rw [hst]
       exact sbl
     ·obtain rfl:j=p.length:=by omega
      rw [Nat.sub_self,List.drop_zero,List.take_length]
      repeat' first|refine Wz ?_|intro _
      refine reE ?_
      rfl⟩
end Go.Proofs.YtmadjfemenlamaaGreatDoor

namespace Go.Proofs.YtmadjfemenlamaaGreatDoor
open Go Go.RowKit Tw Av
theorem up_ans (N:Nat):N≤2000→∀ {n i:Nat} {h:Hsh} {p:List Hsh} {xs:List AV} {id:Option Value} [Hshs xs p],Ans Tryz.prog GL 364 [int n,int i,hA h,.sl 32 xs id] (n≤N∧i < n∧p.length=(turns n i).length) (hA (upH (turns n i) h p)):=by
 induction N with
 | zero=>exact fun _=>⟨fun hc=>absurd hc.2.1 (by omega)⟩
 | succ N ih=>
  intro hN n i h p xs id hx
  have ih:=@ih (by omega)
  refine⟨fun hc=>?_⟩
  obtain⟨c1,c2,c3⟩:=hc
  have hh:=hx.out
  subst hh
  have hm:(p.map hA).length=p.length:=List.length_map _
  refine spec_enter Tryz.func364 rfl Tryz.ntmps364 rfl (fun _ hs=>?_)
  repeat' first|refine Wz ?_|intro _
  refine ac_cond (fun h1=>?_) (fun h1=>?_)
  ·obtain rfl:n=1:=by omega
   repeat' first|refine Wz ?_|intro _
   refine reE ?_
   rfl
  ·have hr:=way_row c2 (by omega)
   have hk0:((n:Int) + 1) / 2=(((n + 1) / 2:Nat):Int):=by omega
   have hpb:p.length≤n:=by rw [c3];exact turns_len n n i (Nat.le_refl _)
   rw [hr,List.length_cons] at c3
   have hpn:p.length - 1 < p.length:=by omega
   have hpe:p=p.take (p.length - 1)++[p[p.length - 1]]:=by
    rw [← List.take_succ_eq_append_getElem hpn,show p.length - 1 + 1=p.length by omega,List.take_length]
   have hup:∀ t ts,upH (t::ts) h p=if t.1=true then nodeH (upH ts h (p.take (p.length - 1))) p[p.length - 1] else nodeH p[p.length - 1] (upH ts h (p.take (p.length - 1))):=fun t ts=>by
    have:=upH_snoc t ts h p[p.length - 1] (p.take (p.length - 1))
    rwa [← hpe] at this
   have htl:((p.take (p.length - 1)).drop 0).length=p.length - 1:=by simp
   repeat' first|refine Wz ?_|intro _
   rw [hk0]
   generalize hk:(n + 1) / 2=k at *
   refine al_idxM (l:=p) (f:=hA) (p.length - 1) hpn ?_
   repeat' first|refine Wz ?_|intro _
   refine ac_cond (fun hlt=>?_) (fun hlt=>?_)
   ·have hik:i < k:=by omega
    rw [if_pos hik,if_pos hik] at hr c3
    repeat' first|refine Wz ?_|intro _
    apply obl_read [];exact rfl;exact rfl;kernel_rfl;intro _ _
    refine al_sliceD 0 (p.length - 1) ?_
    exact al_nil (ae_got rfl rfl)
    apply obl_read [];exact rfl;exact rfl;kernel_rfl;intro _ _
    refine al_callE (hp:=by exact⟨by omega,hik,by rw [htl];omega⟩) ?_
    exact al_nil (ae_got rfl rfl)
    repeat' first|refine Wz ?_|intro _
    refine reE ?_
    rw [hr,hup,if_pos (by simpa using hik),List.drop_zero]
    rfl
   ·have hik:¬ i < k:=by omega
    rw [if_neg hik,if_neg hik] at hr c3
    repeat' first|refine Wz ?_|intro _
    have e1:(n:Int) - (k:Int)=((n - k:Nat):Int):=by omega
    have e2:(i:Int) - (k:Int)=((i - k:Nat):Int):=by omega
    rw [e1,e2]
    repeat' first|refine Wz ?_|intro _
    apply obl_read [];exact rfl;exact rfl;kernel_rfl;intro _ _
    refine al_sliceD 0 (p.length - 1) ?_
    exact al_nil (ae_got rfl rfl)
    apply obl_read [];exact rfl;exact rfl;kernel_rfl;intro _ _
    refine al_callE (hp:=by exact⟨by omega,by omega,by rw [htl];omega⟩) ?_
    exact al_nil (ae_got rfl rfl)
    repeat' first|refine Wz ?_|intro _
    refine reE ?_
    rw [hr,hup,if_neg (by simpa using hik),List.drop_zero]
    rfl
instance fnUp {n i:Nat}{h:Hsh}{p:List Hsh}{xs:List AV}{id:Option Value}[Hshs xs p]:Ans Tryz.prog GL 364 [int n,int i,hA h,.sl 32 xs id] (n≤2000∧i < n∧p.length=(turns n i).length) (hA (upH (turns n i) h p)):=up_ans 2000 (Nat.le_refl _)
instance fnRFold {n i:Int}{h:Hsh}{p:List Hsh}{xs:List AV}{id:Option Value}[hx:Hshs xs p]:Ans Tryz.prog GL 343 [int n,int i,hA h,.sl 32 xs id] (n≤9223372036854775807) (.tup [hA ((foldH n i h p).getD zeroH),boo (foldH n i h p).isSome]):=⟨fun hn=>by
 have hh:=hx.out
 subst hh
 have hmp:(p.map hA).length=p.length:=List.length_map _
 refine spec_enter Tryz.func343 rfl Tryz.ntmps343 rfl (fun _ hs=>?_)
 repeat' first|refine Wz ?_|intro _
 refine gu1 (fun h1=>?_) (fun h1=>?_)
 ·repeat' first|refine Wz ?_|intro _
  refine reE ?_
  rw [bad_fold (.inl h1)]
  rfl
 ·repeat' first|refine Wz ?_|intro _
  refine gu1 (fun h2=>?_) (fun h2=>?_)
  ·repeat' first|refine Wz ?_|intro _
   refine reE ?_
   rw [bad_fold (.inr (.inl h2))]
   rfl
  ·repeat' first|refine Wz ?_|intro _
   refine gu1 (fun h3=>?_) (fun h3=>?_)
   ·repeat' first|refine Wz ?_|intro _
    refine reE ?_
    rw [bad_fold (.inr (.inr (.inl h3)))]
    rfl
   ·repeat' first|refine Wz ?_|intro _
    refine ac_cond (fun h4=>?_) (fun h4=>?_)
    ·repeat' first|refine Wz ?_|intro _
     refine reE ?_
     rw [bad_fold (.inr (.inr (.inr (by omega))))]
     rfl
    ·rw [good_fold (h:=h) (show ¬ (i < 0∨n≤i∨2000 < n∨(wayOf n i).length≠p.length) by omega)]
     obtain⟨N,rfl⟩:∃ N:Nat,n=N:=⟨n.toNat,by omega⟩
     obtain⟨I,rfl⟩:∃ I:Nat,i=I:=⟨i.toNat,by omega⟩
     have hw:wayOf (N:Int) (I:Int)=turns N I:=way_eq (by omega) (by omega)
     rw [hw] at h4 ⊢
     repeat' first|refine Wz ?_|intro _
     refine reE ?_
     rfl⟩
end Go.Proofs.YtmadjfemenlamaaGreatDoor

namespace Go.Proofs.YtmadjfemenlamaaGreatDoor
open Go Go.RowKit Tw Av
theorem take_eq_step {α:Type}{a b:List α}{i:Nat}(h:a.take i=b.take i)(ha:i < a.length)(hb:i < b.length)(he:a[i]=b[i]):a.take (i + 1)=b.take (i + 1):=by
 rw [List.take_succ_eq_append_getElem ha,List.take_succ_eq_append_getElem hb,h,he]
end Go.Proofs.YtmadjfemenlamaaGreatDoor

namespace Go.Proofs.YtmadjfemenlamaaGreatDoor
open Go Go.RowKit Tw Av
end Go.Proofs.YtmadjfemenlamaaGreatDoor

namespace Go.Proofs.YtmadjfemenlamaaGreatDoor
open Go Go.RowKit Tw Av
end Go.Proofs.YtmadjfemenlamaaGreatDoor

namespace Go.Proofs.YtmadjfemenlamaaGreatDoor
open Go Go.RowKit Tw Av
end Go.Proofs.YtmadjfemenlamaaGreatDoor

namespace Go.Proofs.YtmadjfemenlamaaGreatDoor
open Go Go.RowKit Tw Av
structure Prf where
 a:Int
 m:Int
 p:List Hsh
deriving DecidableEq
structure Gp where
 n:Int
 l:List Ent
 r:List Ent
 a:Prf
 b:Prf
deriving DecidableEq
abbrev prfA (x:Prf):AV:=.agg 3 [int x.a,int x.m,.sl 32 (x.p.map hA) none]
abbrev gpA (x:Gp):AV:=.agg 9 [int x.n,.sl 2 (x.l.map entA) none,.sl 2 (x.r.map entA) none,prfA x.a,prfA x.b]
def zeroP:Prf:=⟨0,0,[]⟩
def zeroG:Gp:=⟨0,[],[],zeroP,zeroP⟩
def holdsB (root:Hsh)(x:Ent)(p:Prf):Bool:=(foldH p.m p.a (leafH x) p.p).isSome && decide ((foldH p.m p.a (leafH x) p.p).getD zeroH=root)
def sideB (root:Hsh)(n:Int)(bes:Bs→Bool):List Ent→Prf→Bool
 | [],_=>true
 | [x],p=>bes x.key && (decide (p.m=n) && holdsB root x p)
 | _,_=>false
def endB (root:Hsh)(g:Gp):Bool:=match g.l,g.r with
 | [],[]=>decide (g.n=0) && decide (root=topH 0 (treeH []))
 | [],_=>decide (g.b.a=0)
 | _,[]=>decide (g.a.a=g.n - 1)
 | _,_=>decide (g.b.a=g.a.a + 1)
def missB (root:Hsh)(k:Bs)(g:Gp):Bool:=sideB root g.n (fun a=>blt a k) g.l g.a && (sideB root g.n (fun a=>blt k a) g.r g.b && endB root g)
def fndAt (l:List Ent)(k:Bs):Nat:=l.findIdx fun x=>!blt x.key k
def fndIs (l:List Ent)(k:Bs):Bool:=decide (fndAt l k < l.length∧(l.getD (fndAt l k) ⟨[],[]⟩).key=k)
attribute [irreducible] fndIs
instance fnESame {a b:List Ent}{xs ys:List AV}{id id2:Option Value}[hx:Ents xs a][hy:Ents ys b]:Ans Tryz.prog GL 13 [.sl 2 xs id,.sl 2 ys id2] True (boo (decide (a=b))):=⟨fun _=>by
 have h1:=hx.out
 have h2:=hy.out
 subst h1 h2
 have hma:(a.map entA).length=a.length:=List.length_map _
 have hmb:(b.map entA).length=b.length:=List.length_map _
 refine spec_enter Tryz.func13 rfl Tryz.ntmps13 rfl (fun _ hs=>?_)
 refine ac_bnd 0 (fun hb=>?_)
 have hb:=maxLen_le hb
 repeat' first|refine Vz ?_|intro _
 refine ac_cond (fun hne=>?_) (fun he=>?_)
 ·repeat' first|refine Vz ?_|intro _
  refine reE ?_
  have:a≠b:=fun e=>by subst e;exact hne rfl
  simp [outOf,this]
 ·have hle:a.length=b.length:=by omega
  repeat' first|refine Vz ?_|intro _
  refine ac_loop (α:=Nat) (fun i=>[(0,.sl 2 (a.map entA) id),(1,.sl 2 (b.map entA) id2),(5,int i)]) (fun _=>[]) (fun i=>i≤a.length∧a.take i=b.take i) (fun i=>a.length - i) 0 ⟨rfl,rfl,rfl,trivial⟩ (List.Sublist.refl _) ⟨Nat.zero_le _,rfl⟩ ?_
  rintro i ⟨g1,g2⟩
  repeat' first|refine Vz ?_|intro _
  refine ac_cond (fun hlt=>?_) (fun hlt=>?_)
  ·have ha:i < a.length:=by omega
   have hb:i < b.length:=by omega
   repeat' (first|refine W ?_|refine op3 ?_|refine ob5 ?_|refine opE ?_|refine obE ?_|refine ob2 (fun _=>?_)|intro _)
   have hk:decide (a[i]=b[i])=(decide (a[i].key=b[i].key) && (decide (a[i].val=b[i].val) && true)):=by
    rw [show a[i]=⟨a[i].key,a[i].val⟩ from rfl,show b[i]=⟨b[i].key,b[i].val⟩ from rfl]
    simp [Ent.mk.injEq]
   rw [← hk]
   refine ac_condB (fun hc=>?_) (fun hc=>?_)
   ·repeat' first|refine Vz ?_|intro _
    refine reE ?_
    have hne:a[i]≠b[i]:=by simpa using hc
    have:a≠b:=fun e=>by subst e;exact hne rfl
    simp [outOf,this]
   ·repeat' first|refine Vz ?_|intro _
    exact ae_round (i + 1) ⟨rfl,rfl,rfl,trivial⟩ (List.Sublist.refl _) ⟨ha,take_eq_step g2 ha hb (by simpa using hc)⟩ (by omega)
  ·repeat' first|refine Vz ?_|intro _
   refine reE ?_
   rw [List.take_of_length_le (by omega),List.take_of_length_le (by omega)] at g2
   simp [outOf,g2]⟩
instance fnPHolds {root:Hsh}{a b:Bs}{i m:Int}{p:List Hsh}{xs:List AV}{id:Option Value}[hx:Hshs xs p]:Ans Tryz.prog GL 328 [hA root,.agg 2 [str a,str b],.agg 3 [int i,int m,.sl 32 xs id]] (m≤9223372036854775807) (boo (holdsB root ⟨a,b⟩ ⟨i,m,p⟩)):=⟨fun hl=>by
 have h:=hx.out
 subst h
 refine spec_enter Tryz.func328 rfl Tryz.ntmps328 rfl (fun _ hs=>?_)
 repeat' first|refine Vz ?_|intro _
 rw [holdsB]
 generalize foldH m i (leafH ⟨a,b⟩) p=o
 cases o
 ·repeat' (first|refine W ?_|refine op3 ?_|refine ob5 ?_|refine opE ?_|refine obE ?_|refine ob2 (fun _=>?_)|intro _)
  refine reE ?_
  rfl
 ·repeat' (first|refine W ?_|refine op3 ?_|refine ob5 ?_|refine opE ?_|refine obE ?_|refine ob2 (fun _=>?_)|intro _)
  refine reE ?_
  rfl⟩
instance fnRHolds {root:Hsh}{a b:Bs}{i m:Int}{p:List Hsh}{xs:List AV}{id:Option Value}[hx:Hshs xs p]:Ans Tryz.prog GL 291 [hA root,.agg 2 [str a,str b],.agg 3 [int i,int m,.sl 32 xs id]] (m≤9223372036854775807) (boo (holdsB root ⟨a,b⟩ ⟨i,m,p⟩)):=⟨fun hl=>by
 have h:=hx.out
 subst h
 refine spec_enter Tryz.func291 rfl Tryz.ntmps291 rfl (fun _ hs=>?_)
 repeat' first|refine Vz ?_|intro _
 rw [holdsB]
 generalize foldH m i (leafH ⟨a,b⟩) p=o
 cases o
 ·repeat' (first|refine W ?_|refine op3 ?_|refine ob5 ?_|refine opE ?_|refine obE ?_|refine ob2 (fun _=>?_)|intro _)
  refine reE ?_
  rfl
 ·repeat' (first|refine W ?_|refine op3 ?_|refine ob5 ?_|refine opE ?_|refine obE ?_|refine ob2 (fun _=>?_)|intro _)
  refine reE ?_
  rfl⟩
end Go.Proofs.YtmadjfemenlamaaGreatDoor

namespace Go.Proofs.YtmadjfemenlamaaGreatDoor
open Go Go.RowKit Tw Av
end Go.Proofs.YtmadjfemenlamaaGreatDoor

namespace Go.Proofs.YtmadjfemenlamaaGreatDoor
open Go Go.RowKit Tw Av
end Go.Proofs.YtmadjfemenlamaaGreatDoor

namespace Go.Proofs.YtmadjfemenlamaaGreatDoor
open Go Go.RowKit Tw Av
end Go.Proofs.YtmadjfemenlamaaGreatDoor

namespace Go.Proofs.YtmadjfemenlamaaGreatDoor
open Go Go.RowKit Tw Av
end Go.Proofs.YtmadjfemenlamaaGreatDoor

namespace Av
open Go Go.RowKit Tw
section
variable {P:Program} {N:Nat} {ops:Array Oper} {Q:Exit→Act→World→Prop} {rest:List Oper} {s:Base} {e:Env} {m:List Piece} {d:Nat} {ty:TypeId} {pos:String} {af:Array Edge}
end
end Av
namespace Go.Proofs.YtmadjfemenlamaaGreatDoor
open Go Go.RowKit Tw Av
end Go.Proofs.YtmadjfemenlamaaGreatDoor

namespace Go.Proofs.YtmadjfemenlamaaGreatDoor
open Go Go.RowKit Tw Av
end Go.Proofs.YtmadjfemenlamaaGreatDoor

namespace Go.Proofs.YtmadjfemenlamaaGreatDoor
open Go Go.RowKit Tw Av
end Go.Proofs.YtmadjfemenlamaaGreatDoor

namespace Go.Proofs.YtmadjfemenlamaaGreatDoor
open Go Go.RowKit Tw Av
end Go.Proofs.YtmadjfemenlamaaGreatDoor

namespace Av
open Go Go.RowKit Tw
section
variable {P:Program} {N:Nat} {s:Base} {e:Env} {m:List Piece}
end
end Av
namespace Go.Proofs.YtmadjfemenlamaaGreatDoor
open Go Go.RowKit Tw Av
instance {k:Nat}:ImpT (.lit (.slice none 0 0)) (.sl k [] (some (.slice none 0 0))):=⟨ImpC.nilS⟩
end Go.Proofs.YtmadjfemenlamaaGreatDoor

namespace Go.Proofs.YtmadjfemenlamaaGreatDoor
open Go Go.RowKit Tw Av
end Go.Proofs.YtmadjfemenlamaaGreatDoor

namespace Go.Proofs.YtmadjfemenlamaaGreatDoor
open Go Go.RowKit Tw Av
def prfB (p:Prf):Bs:=tlvI 105 p.a++tlvI 109 p.m++tlvA 112 (p.p.map fun h=>h.l)
def sideT (l:List Ent):List Bs:=l.flatMap fun x=>[x.key,x.val]
def sidB (l:List Ent)(p:Prf):Bs:=tlvA 101 (sideT l)++tlvT 80 (prfB p)
def gapB (g:Gp):Bs:=tlvI 109 g.n++sidB g.l g.a++sidB g.r g.b
instance fnRPBytes {i m:Int}{p:List Hsh}{xs:List AV}{id:Option Value}[hx:Hshs xs p]:Ans Tryz.prog GL 69 [.agg 3 [int i,int m,.sl 32 xs id]] (p.length≤1000000∧i≤9223372036854775807∧m≤9223372036854775807) (str (prfB ⟨i,m,p⟩)):=⟨fun hp=>by
 obtain⟨hn,hi,hmm⟩:=hp
 have h:=hx.out
 subst h
 have hm:(p.map hA).length=p.length:=List.length_map _
 refine spec_enter Tryz.func69 rfl Tryz.ntmps69 rfl (fun _ hs=>?_)
 repeat' first|refine Yz ?_|intro _
 rename_i g1
 refine ac_as 3 (Imp.nil (k:=1)) ?_
 refine ac_st (fun ok w h=>h.full 9 1 none 0) ?_
 refine ac_loop (α:=Nat × Value) (fun q=>[(1,ptr g1),(3,.sl 1 (((p.take q.1).map fun h=>h.l).map str) (some q.2)),(4,int q.1)]) (fun q=>[.tail 9 1 q.2,.var g1 65 (.agg 3 [int i,int m,.sl 32 (p.map hA) id])]) (fun q=>q.1≤p.length) (fun q=>p.length - q.1) (0,.slice none 0 0) ⟨rfl,rfl,rfl,trivial⟩ (List.Sublist.refl _) (Nat.zero_le _) ?_
 rintro⟨j,v⟩ hj
 dsimp only at hj ⊢
 repeat' first|refine Yz ?_|intro _
 refine ac_cond (fun hlt=>?_) (fun hlt=>?_)
 ·have hil:j < p.length:=by omega
  have hml:((p.take j).map fun h=>h.l).length≤1000000:=by simp;omega
  repeat' first|refine Yz ?_|intro _
  refine al_append (fun v'=>?_)
  repeat' first|refine Yz ?_|intro _
  refine ae_round (j + 1,v') ⟨rfl,?_,rfl,trivial⟩ (List.Sublist.refl _) hil (by dsimp only;omega)
  rw [List.take_succ_eq_append_getElem hil,List.map_append,List.map_append]
  rfl
 ·obtain rfl:j=p.length:=by omega
  rw [List.take_length]
  have hml:(p.map fun h=>h.l).length≤8000000:=by simp;omega
  repeat' first|refine Yz ?_|intro _
  refine reE ?_
  rfl⟩
end Go.Proofs.YtmadjfemenlamaaGreatDoor

namespace Go.Proofs.YtmadjfemenlamaaGreatDoor
open Go Go.RowKit Tw Av
theorem sideT_len (l:List Ent):(sideT l).length=l.length * 2:=by
 induction l with
 | nil=>rfl
 | cons x l ih=>simp [sideT] at ih ⊢;omega
theorem sideT_next {l:List Ent}{j:Nat}(h:j < l.length):sideT (l.take (j + 1))=sideT (l.take j)++[l[j].key,l[j].val]:=by
 unfold sideT
 rw [List.take_succ_eq_append_getElem h,List.flatMap_append]
 simp
instance {l:List Ent}{p:Prf}:LenLe (sidB l p) 33554438:=⟨by
 have h1:=tlvT_len 101 ((sideT l).flatMap (tlvT 101))
 have h2:=tlvT_len 80 (prfB p)
 have e:sidB l p=tlvT 101 ((sideT l).flatMap (tlvT 101))++tlvT 80 (prfB p):=rfl
 rw [e,List.length_append]
 omega⟩
instance fnRPSide {l:List Ent}{i m:Int}{p:List Hsh}{xs ys:List AV}{id id2:Option Value}[hx:Ents xs l][hy:Hshs ys p]:Ans Tryz.prog GL 121 [.sl 2 xs id,.agg 3 [int i,int m,.sl 32 ys id2]] (l.length≤1000000∧p.length≤1000000∧i≤9223372036854775807∧m≤9223372036854775807) (str (sidB l ⟨i,m,p⟩)):=⟨fun hp=>by
 obtain⟨hll,hn,hi,hmm⟩:=hp
 have h:=hx.out
 have h2:=hy.out
 subst h h2
 have hm:(l.map entA).length=l.length:=List.length_map _
 refine spec_enter Tryz.func121 rfl Tryz.ntmps121 rfl (fun _ hs=>?_)
 repeat' first|refine Yz ?_|intro _
 rename_i g1
 refine ac_as 5 (Imp.nil (k:=1)) ?_
 refine ac_st (fun ok w h=>h.full 9 1 none 0) ?_
 refine ac_loop (α:=Nat × Value) (fun q=>[(0,.sl 2 (l.map entA) id),(3,ptr g1),(5,.sl 1 ((sideT (l.take q.1)).map str) (some q.2)),(6,int q.1)]) (fun q=>[.tail 9 1 q.2,.var g1 65 (.agg 3 [int i,int m,.sl 32 (p.map hA) id2])]) (fun q=>q.1≤l.length) (fun q=>l.length - q.1) (0,.slice none 0 0) ⟨rfl,rfl,rfl,rfl,trivial⟩ (List.Sublist.refl _) (Nat.zero_le _) ?_
 rintro⟨j,v⟩ hj
 dsimp only at hj ⊢
 repeat' first|refine Yz ?_|intro _
 refine ac_cond (fun hlt=>?_) (fun hlt=>?_)
 ·have hil:j < l.length:=by omega
  have hml:(sideT (l.take j)).length≤2000000:=by rw [sideT_len];simp;omega
  repeat' first|refine Yz ?_|intro _
  refine al_append (fun v'=>?_)
  repeat' first|refine Yz ?_|intro _
  refine al_append (fun v''=>?_)
  repeat' first|refine Yz ?_|intro _
  refine ae_round (j + 1,v'') ⟨rfl,rfl,?_,rfl,trivial⟩ (List.Sublist.refl _) hil (by dsimp only;omega)
  rw [sideT_next hil,List.map_append]
  simp
  rfl
 ·obtain rfl:j=l.length:=by omega
  rw [List.take_length]
  have hml:(sideT l).length≤8000000:=by rw [sideT_len];omega
  repeat' first|refine Yz ?_|intro _
  refine reE ?_
  rfl⟩
structure GapW (g:Gp):Prop where
 l:g.l.length≤1000000∧g.a.p.length≤1000000∧g.a.a≤9223372036854775807∧g.a.m≤9223372036854775807
 r:g.r.length≤1000000∧g.b.p.length≤1000000∧g.b.a≤9223372036854775807∧g.b.m≤9223372036854775807
 n:g.n≤9223372036854775807
instance fnRGBytes {n i m i2 m2:Int}{l r:List Ent}{p q:List Hsh}{xs ys zs ws:List AV}{d1 d2 d3 d4:Option Value}[hx:Ents xs l][hy:Ents ys r][hz:Hshs zs p][hw:Hshs ws q]:Ans Tryz.prog GL 70 [.agg 9 [int n,.sl 2 xs d1,.sl 2 ys d2,.agg 3 [int i,int m,.sl 32 zs d3],.agg 3 [int i2,int m2,.sl 32 ws d4]]] (GapW ⟨n,l,r,⟨i,m,p⟩,⟨i2,m2,q⟩⟩) (str (gapB ⟨n,l,r,⟨i,m,p⟩,⟨i2,m2,q⟩⟩)):=⟨fun hp=>by
 obtain⟨hl,hr,hn⟩:=hp
 dsimp only at hl hr hn
 refine spec_enter Tryz.func70 rfl Tryz.ntmps70 rfl (fun _ hs=>?_)
 repeat' first|refine Yz ?_|intro _
 refine reE ?_
 rfl⟩
end Go.Proofs.YtmadjfemenlamaaGreatDoor

namespace Go.Proofs.YtmadjfemenlamaaGreatDoor
open Go Go.RowKit Tw Av
def rpS1 (s:Bs):Bs:=rsT 105 8 s false
def rpB1 (s:Bs):Bool:=riB 105 2000 s false
def rpS2 (s:Bs):Bs:=rsT 109 8 (rpS1 s) (rpB1 s)
def rpB2 (s:Bs):Bool:=riB 109 2000 (rpS1 s) (rpB1 s)
def rpL (s:Bs):List Bs:=raL 112 16 32 (rpS2 s) (rpB2 s)
def rpE (s:Bs):Int:=reE' (rsT 112 16777215 (rpS2 s) (rpB2 s)) (raB 112 16 32 (rpS2 s) (rpB2 s))
def rpV (s:Bs):Prf:=⟨riI 105 2000 s false,riI 109 2000 (rpS1 s) (rpB1 s),(rpL s).map hOf⟩
def ok32 (t:Bs):Bool:=decide (t.length=32)
def rpOk (s:Bs):Bool:=(rpL s).all ok32 && decide (rpE s=0)
def rpdV (s:Bs):Prf:=if rpOk s=true then rpV s else zeroP
def rpdE (s:Bs):Int:=if rpOk s=true then 0 else 10
theorem ri1 {s:Bs}:rsT 105 8 s false=rpS1 s:=rfl
theorem ri2 {s:Bs}:riB 105 2000 s false=rpB1 s:=rfl
theorem ri3 {s:Bs}:rsT 109 8 (rpS1 s) (rpB1 s)=rpS2 s:=rfl
theorem ri4 {s:Bs}:riB 109 2000 (rpS1 s) (rpB1 s)=rpB2 s:=rfl
theorem ri5 {s:Bs}:raL 112 16 32 (rpS2 s) (rpB2 s)=rpL s:=rfl
theorem rp_lens (s:Bs):(rpS1 s).length≤s.length∧(rpS2 s).length≤s.length:=by
 have h1:=(rsT_len 105 8 s false).1
 have h2:=(rsT_len 109 8 (rpS1 s) (rpB1 s)).1
 rw [ri1] at h1
 rw [ri3] at h2
 exact⟨h1,by omega⟩
theorem all32_take {l:List Bs}{i:Nat}(hi:i < l.length)(h:(l.take i).all ok32=true)(h2:ok32 l[i]=true):(l.take (i + 1)).all ok32=true:=by
 rw [List.take_succ_eq_append_getElem hi,List.all_append,h]
 simp [h2]
theorem all32_not {l:List Bs}{i:Nat}(hi:i < l.length)(h2:ok32 l[i]=false):l.all ok32=false:=by
 rw [List.all_eq_false]
 exact⟨l[i],List.getElem_mem hi,by simp [h2]⟩
theorem raL_len' {c many most:Int}{s:Bs}{b:Bool}(h0:0≤many):((raL c many most s b).length:Int)≤many:=by
 unfold raL outA
 split
 ·simpa using h0
 ·rename_i h
  unfold badA at h
  by_cases hm:many < ((allX c most (rtT c 16777215 s b)).1.length:Int)
  ·rw [decide_eq_true hm] at h
   simp at h
  ·omega
theorem imp_pvar {a m:Int}:ImpC (.agg 3 [int a,int m,.lit (.slice none 0 0)]) (.agg 3 [int a,int m,.sl 32 [] (some (.slice none 0 0))]):=fun ok w cs h=>by
 rw [RC] at h ⊢
 refine⟨h.1,?_⟩
 have h:=h.2
 rw [RCs] at h ⊢
 obtain⟨a1,b1,e1,f1,h⟩:=h
 refine⟨a1,b1,e1,f1,?_⟩
 rw [RCs] at h ⊢
 obtain⟨a1,b1,e1,f1,h⟩:=h
 refine⟨a1,b1,e1,f1,?_⟩
 rw [RCs] at h ⊢
 obtain⟨a1,b1,e1,f1,h⟩:=h
 exact⟨a1,b1,e1,ImpC.nilT _ _ _ f1,h⟩
theorem imp_rp0:Imp (.tup [.agg 3 [.lit (.int .i64 0),.lit (.int .i64 0),.lit (.slice none 0 0)],int 10]) (.tup [prfA zeroP,int 10]):=(inferInstance:ImpR _ (.tup [.agg 3 [int 0,int 0,.sl 32 [] none],int 10])).imp
theorem imp_rp {a m:Int}{xs:List AV}{v:Value}{e:Int}:Imp (.tup [.agg 3 [int a,int m,.sl 32 xs (some v)],int e]) (.tup [.agg 3 [int a,int m,.sl 32 xs none],int e]):=ImpR.imp
set_option maxHeartbeats 1000000 in
instance fnPRead {s:Bs}:Ans Tryz.prog GL 47 [str s] (s.length≤1000000000) (.tup [prfA (rpdV s),int (rpdE s)]):=⟨fun hl=>by
 obtain⟨l1,l2⟩:=rp_lens s
 have e1:(rpS1 s).length=(rsT 105 8 s false).length:=rfl
 have e2:(rpS2 s).length=(rsT 109 8 (rsT 105 8 s false) (riB 105 2000 s false)).length:=rfl
 refine spec_enter Tryz.func47 rfl Tryz.ntmps47 rfl (fun _ hs=>?_)
 repeat' first|refine Yz ?_|intro _
 refine al_callK (args:=[str s]) [] _ (by rw [hs];exact tlvRead) (fun u m1 hh=>?_) (List.Perm.refl _)
 obtain⟨gr,rfl,rfl⟩:=hh
 repeat' first|refine Yz ?_|intro _
 rw [ri1,ri2,ri3,ri4,ri5]
 have hE:rpE s=reE' (rsT 112 16777215 (rpS2 s) (rpB2 s)) (raB 112 16 32 (rpS2 s) (rpB2 s)):=rfl
 have hV:rpV s=⟨riI 105 2000 s false,riI 109 2000 (rpS1 s) (rpB1 s),(rpL s).map hOf⟩:=rfl
 have hK:rpOk s=((rpL s).all ok32 && decide (rpE s=0)):=rfl
 have hn:=raL_len' (c:=112) (many:=16) (most:=32) (s:=rpS2 s) (b:=rpB2 s) (by decide)
 rw [ri5] at hn
 rw [rpdV,rpdE,hK,hV,hE]
 generalize rpL s=L at *
 generalize rsT 112 16777215 (rpS2 s) (rpB2 s)=S5 at *
 generalize raB 112 16 32 (rpS2 s) (rpB2 s)=B5 at *
 generalize riI 105 2000 s false=a at *
 generalize riI 109 2000 (rpS1 s) (rpB1 s)=m at *
 have hml:(L.map str).length=L.length:=List.length_map _
 rename_i g2 g5
 refine ac_asV (g:=g5) (v':=.agg 3 [int a,int m,.sl 32 [] (some (.slice none 0 0))]) imp_pvar ?_
 refine ac_st (fun ok w h=>h.full 49 32 none 0) ?_
 refine ac_midB (α:={q:List Hsh × Value // L.all ok32=true→q.1=L.map hOf}) (fun _=>[(2,ptr g2),(4,ptr gr),(5,ptr g5),(6,int (if L.all ok32=true then 0 else 10))])
  (fun q=>[.var g5 65 (.agg 3 [int a,int m,.sl 32 (q.1.1.map hA) (some q.1.2)]),.var gr 159 (rdA S5 B5),.var g2 65 (.agg 3 [int 0,int 0,nils])]) ?_ (fun q=>?_)
 ·refine ac_loop (α:=Nat × Value) (fun q=>[(2,ptr g2),(4,ptr gr),(5,ptr g5),(6,int 0),(19,.sl 1 (L.map str) none),(20,int L.length),(21,int q.1)])
   (fun q=>[.tail 49 32 q.2,.var g5 65 (.agg 3 [int a,int m,.sl 32 (((L.take q.1).map hOf).map hA) (some q.2)]),.var gr 159 (rdA S5 B5),.var g2 65 (.agg 3 [int 0,int 0,nils])])
   (fun q=>q.1≤L.length∧(L.take q.1).all ok32=true) (fun q=>L.length - q.1) (0,.slice none 0 0) ⟨rfl,rfl,rfl,rfl,rfl,by rw [← hml];rfl,rfl,trivial⟩ (List.Sublist.refl _) ⟨Nat.zero_le _,rfl⟩ ?_
  rintro⟨i,v⟩ ⟨h1,h2⟩
  dsimp only at h1 h2 ⊢
  repeat' first|refine Yz ?_|intro _
  refine ac_cond (fun hlt=>?_) (fun hlt=>?_)
  ·have hil:i < L.length:=by omega
   have hml2:((L.take i).map hOf).length≤16:=by simp;omega
   repeat' first|refine Yz ?_|intro _
   by_cases h32:L[i].length=32
   ·rw [if_pos h32]
    repeat' first|refine Yz ?_|intro _
    refine al_append (fun v'=>?_)
    repeat' first|refine Yz ?_|intro _
    refine ae_round (i + 1,v') ⟨rfl,rfl,rfl,rfl,rfl,rfl,rfl,trivial⟩ ?_ ⟨hil,all32_take hil h2 (decide_eq_true h32)⟩ (by dsimp only;omega)
    dsimp only
    rw [List.take_succ_eq_append_getElem hil,List.map_append,List.map_append]
    exact List.Sublist.cons _ (List.Sublist.refl _)
   ·rw [if_neg h32]
    repeat' first|refine Yz ?_|intro _
    have hno:=all32_not hil (show ok32 L[i]=false from decide_eq_false h32)
    refine ae_cut ⟨((L.take i).map hOf,v),fun h=>by rw [hno] at h;cases h⟩ ⟨rfl,rfl,rfl,?_,trivial⟩ ?_
    ·rw [hno]
     rfl
    ·exact sbl
  ·obtain rfl:i=L.length:=by omega
   rw [List.take_length] at h2 ⊢
   repeat' first|refine Yz ?_|intro _
   refine ae_cut ⟨(L.map hOf,v),fun _=>rfl⟩ ⟨rfl,rfl,rfl,?_,trivial⟩ ?_
   ·rw [h2]
    rfl
   ·exact sbl
 obtain⟨⟨ps,v⟩,hq⟩:=q
 dsimp only at hq ⊢
 cases ha:L.all ok32
 ·repeat' first|refine Yz ?_|intro _
  refine reI ?_
  exact imp_rp0
 rw [hq ha]
 by_cases hE0:reE' S5 B5=0
 ·rw [decide_eq_true hE0]
  repeat' first|refine Yz ?_|intro _
  refine reI ?_
  exact imp_rp
 ·rw [decide_eq_false hE0]
  repeat' first|refine Yz ?_|intro _
  refine reI ?_
  exact imp_rp0⟩
end Go.Proofs.YtmadjfemenlamaaGreatDoor
