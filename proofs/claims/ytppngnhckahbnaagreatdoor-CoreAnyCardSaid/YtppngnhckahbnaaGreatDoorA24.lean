/- the references' dictionary (08): Of -/
import Derived.Test.YtppngnhckahbnaaGreatDoorA23
namespace Go.Proofs.YtppngnhckahbnaaGreatDoor
open Go Go.RowKit Tw Av
instance fnHalf {n:Int}:Ans Tryz.prog GL 337 [int n] (0≤n∧n < 4611686018427387904) (int ((n + 1) / 2)):=⟨fun hn=>by
 refine spec_enter Tryz.func337 rfl Tryz.ntmps337 rfl (fun _ hs=>?_)
 repeat' first|refine Wz ?_|intro _
 refine reE ?_
 rfl⟩
abbrev WayStep:=Bool × Nat × Nat
abbrev trA (t:WayStep):AV:=.agg 3 [boo t.1,int t.2.1,int t.2.2]
def turnsF:Nat→Nat→Nat→List WayStep
 | 0,_,_=>[]
 | f + 1,n,i=>if n≤1 then [] else
  (decide (i < (n + 1) / 2),(n + 1) / 2,n - (n + 1) / 2)::(if i < (n + 1) / 2 then turnsF f ((n + 1) / 2) i else turnsF f (n - (n + 1) / 2) (i - (n + 1) / 2))
def turns (n i:Nat):List WayStep:=turnsF n n i
theorem turnsF_more:∀ (f f' n i:Nat),n≤f→n≤f'→turnsF f n i=turnsF f' n i
 | 0,0,_,_,_,_=>rfl
 | 0,f' + 1,n,i,h,_=>by
  have:n=0:=by omega
  subst this
  rfl
 | f + 1,0,n,i,_,h=>by
  have:n=0:=by omega
  subst this
  rfl
 | f + 1,f' + 1,n,i,h,h'=>by
  unfold turnsF
  split
  ·rfl
  ·rw [turnsF_more f f' _ i (by omega) (by omega),turnsF_more f f' _ (i - (n + 1) / 2) (by omega) (by omega)]
theorem turns_step (n i:Nat)(h:1 < n):turns n i=(decide (i < (n + 1) / 2),(n + 1) / 2,n - (n + 1) / 2)::(if i < (n + 1) / 2 then turns ((n + 1) / 2) i else turns (n - (n + 1) / 2) (i - (n + 1) / 2)):=by
 obtain⟨f,rfl⟩:∃ f,n=f + 1:=⟨n - 1,by omega⟩
 unfold turns
 rw [turnsF,if_neg (by omega),turnsF_more f _ _ i (by omega) (Nat.le_refl _),turnsF_more f _ _ (i - (f + 1 + 1) / 2) (by omega) (Nat.le_refl _)]
theorem turns_one (i:Nat):turns 1 i=[]:=rfl
def wayOf (n i:Int):List WayStep:=if i < 0∨n≤i∨2000 < n then [] else turns n.toNat i.toNat
instance fnTurns {n i:Int}:Ans Tryz.prog GL 269 [int n,int i] True (.sl 3 ((wayOf n i).map trA) none):=⟨fun _=>by
 refine spec_enter Tryz.func269 rfl Tryz.ntmps269 rfl (fun _ hs=>?_)
 repeat' first|refine Wz ?_|intro _
 refine gu1 (fun h1=>?_) (fun h1=>?_)
 ·repeat' first|refine Wz ?_|intro _
  refine ae_as 4 (Imp.nilN (k:=3)) ?_
  refine reE ?_
  simp [outOf,wayOf,h1]
 ·repeat' first|refine Wz ?_|intro _
  refine gu1 (fun h2=>?_) (fun h2=>?_)
  ·repeat' first|refine Wz ?_|intro _
   refine ae_as 4 (Imp.nilN (k:=3)) ?_
   refine reE ?_
   simp [outOf,wayOf,h2]
  ·repeat' first|refine Wz ?_|intro _
   refine ac_cond (fun h3=>?_) (fun h3=>?_)
   ·repeat' first|refine Wz ?_|intro _
    refine ae_as 4 (Imp.nilN (k:=3)) ?_
    refine reE ?_
    simp [outOf,wayOf,h3]
   ·repeat' first|refine Wz ?_|intro _
    obtain⟨N,rfl⟩:∃ N:Nat,n=N:=⟨n.toNat,by omega⟩
    obtain⟨I,rfl⟩:∃ I:Nat,i=I:=⟨i.toNat,by omega⟩
    have hway:wayOf N I=turns N I:=by simp [wayOf,h1,h2,h3]
    refine ac_as 5 (Imp.nil (k:=3)) ?_
    refine ac_st (fun ok w h=>h.full 294 3 none 0) ?_
    refine ac_loop (α:=Nat × Nat × Value × List WayStep) (fun q=>[(0,int q.1),(1,int q.2.1),(5,.sl 3 (q.2.2.2.map trA) (some q.2.2.1))]) (fun q=>[.tail 294 3 q.2.2.1])
     (fun q=>q.2.1 < q.1∧q.2.2.2.length + q.1≤2001∧q.2.2.2++turns q.1 q.2.1=turns N I) (fun q=>q.1) (N,I,.slice none 0 0,[]) ⟨rfl,rfl,rfl,trivial⟩ (List.Sublist.refl _) ⟨by simp only;omega,by simp only [List.length_nil];omega,rfl⟩ ?_
    rintro⟨n',i',v,done⟩ ⟨g1,g2,g3⟩
    dsimp only at g1 g2 g3 ⊢
    repeat' first|refine Wz ?_|intro _
    refine ac_cond (fun hone=>?_) (fun hone=>?_)
    ·obtain rfl:n'=1:=by omega
     repeat' first|refine Wz ?_|intro _
     refine ae_as 4 Imp.sl ?_
     refine reE ?_
     rw [turns_one,List.append_nil] at g3
     rw [hway,← g3]
     rfl
    ·repeat' first|refine Wz ?_|intro _
     have hstep:=turns_step n' i' (by omega)
     have hk0:((n':Int) + 1) / 2=(((n' + 1) / 2:Nat):Int):=by omega
     rw [hk0]
     generalize hk:(n' + 1) / 2=k at *
     have hd0:decide ((i':Int) < (k:Int))=decide (i' < k):=by simp
     have hs0:(n':Int) - (k:Int)=((n' - k:Nat):Int):=by omega
     rw [hd0,hs0]
     refine al_append (fun v'=>?_)
     have e1:done.map trA++[.agg 3 [boo (decide (i' < k)),int k,int (n' - k:Nat)]]=(done++[(decide (i' < k),k,n' - k)]).map trA:=by simp
     rw [e1]
     have hlen:(done++[(decide (i' < k),k,n' - k)]).length=done.length + 1:=by simp
     repeat' first|refine Wz ?_|intro _
     refine ac_condB (fun hc=>?_) (fun hc=>?_)
     ·have hge:¬ i' < k:=by intro h;simp [h] at hc
      repeat' first|refine Wz ?_|intro _
      rw [show (i':Int) - (k:Int)=((i' - k:Nat):Int) by omega]
      refine ae_round (n' - k,i' - k,v',done++[(decide (i' < k),k,n' - k)]) ⟨rfl,rfl,rfl,trivial⟩ ?_ ⟨by simp only;omega,by simp only [hlen];omega,?_⟩ (by simp only;omega)
      ·exact sbl
      ·rw [← g3,hstep,if_neg hge,List.append_assoc]
       rfl
     ·have hlt:i' < k:=by
       rcases Nat.lt_or_ge i' k with h|h
       ·exact h
       ·simp [Nat.not_lt.2 h] at hc
      repeat' first|refine Wz ?_|intro _
      refine ae_round (k,i',v',done++[(decide (i' < k),k,n' - k)]) ⟨rfl,rfl,rfl,trivial⟩ ?_ ⟨by simp only;omega,by simp only [hlen];omega,?_⟩ (by simp only;omega)
      ·exact sbl
      ·rw [← g3,hstep,if_pos hlt,List.append_assoc]
       rfl⟩
instance fnRLong {n i:Int}:Ans Tryz.prog GL 273 [int n,int i] True (int (wayOf n i).length):=⟨fun _=>by
 refine spec_enter Tryz.func273 rfl Tryz.ntmps273 rfl (fun _ hs=>?_)
 repeat' first|refine Wz ?_|intro _
 refine gu1 (fun h1=>?_) (fun h1=>?_)
 ·repeat' first|refine Wz ?_|intro _
  refine reE ?_
  simp [outOf,wayOf,h1]
 ·repeat' first|refine Wz ?_|intro _
  refine gu1 (fun h2=>?_) (fun h2=>?_)
  ·repeat' first|refine Wz ?_|intro _
   refine reE ?_
   simp [outOf,wayOf,h2]
  ·repeat' first|refine Wz ?_|intro _
   refine ac_cond (fun h3=>?_) (fun h3=>?_)
   ·repeat' first|refine Wz ?_|intro _
    refine reE ?_
    simp [outOf,wayOf,h3]
   ·repeat' first|refine Wz ?_|intro _
    obtain⟨N,rfl⟩:∃ N:Nat,n=N:=⟨n.toNat,by omega⟩
    obtain⟨I,rfl⟩:∃ I:Nat,i=I:=⟨i.toNat,by omega⟩
    have hway:wayOf N I=turns N I:=by simp [wayOf,h1,h2,h3]
    refine ac_loop (α:=Nat × Nat × Nat) (fun q=>[(0,int q.1),(1,int q.2.1),(5,int q.2.2)]) (fun q=>[])
     (fun q=>q.2.1 < q.1∧q.2.2 + q.1≤2001∧q.2.2 + (turns q.1 q.2.1).length=(turns N I).length) (fun q=>q.1) (N,I,0) ⟨rfl,rfl,rfl,trivial⟩ (List.Sublist.refl _) ⟨by simp only;omega,by simp only;omega,by simp only;omega⟩ ?_
    rintro⟨n',i',d⟩ ⟨g1,g2,g3⟩
    dsimp only at g1 g2 g3 ⊢
    repeat' first|refine Wz ?_|intro _
    refine ac_cond (fun hone=>?_) (fun hone=>?_)
    ·repeat' first|refine Wz ?_|intro _
     have hstep:=turns_step n' i' (by omega)
     have hk0:((n':Int) + 1) / 2=(((n' + 1) / 2:Nat):Int):=by omega
     rw [hk0]
     generalize hk:(n' + 1) / 2=k at *
     refine ac_cond (fun hlt=>?_) (fun hlt=>?_)
     ·repeat' first|refine Wz ?_|intro _
      rw [if_pos (by omega)] at hstep
      have:=congrArg List.length hstep
      simp only [List.length_cons] at this
      exact ae_round (k,i',d + 1) ⟨rfl,rfl,rfl,trivial⟩ (List.Sublist.refl _) ⟨by simp only;omega,by simp only;omega,by simp only;omega⟩ (by simp only;omega)
     ·repeat' first|refine Wz ?_|intro _
      rw [if_neg (by omega)] at hstep
      have:=congrArg List.length hstep
      simp only [List.length_cons] at this
      rw [show (i':Int) - (k:Int)=((i' - k:Nat):Int) by omega,show (n':Int) - (k:Int)=((n' - k:Nat):Int) by omega]
      exact ae_round (n' - k,i' - k,d + 1) ⟨rfl,rfl,rfl,trivial⟩ (List.Sublist.refl _) ⟨by simp only;omega,by simp only;omega,by simp only;omega⟩ (by simp only;omega)
    ·obtain rfl:n'=1:=by omega
     repeat' first|refine Wz ?_|intro _
     refine reE ?_
     rw [turns_one] at g3
     rw [hway,← g3]
     rfl⟩
end Go.Proofs.YtppngnhckahbnaaGreatDoor

namespace Go.Proofs.YtppngnhckahbnaaGreatDoor
open Go Go.RowKit Tw Av
def treeF:Nat→List Hsh→Hsh
 | 0,_=>zeroH
 | f + 1,l=>match l with
  | []=>zeroH
  | [x]=>x
  | _=>nodeH (treeF f (l.take ((l.length + 1) / 2))) (treeF f (l.drop ((l.length + 1) / 2)))
def treeH (l:List Hsh):Hsh:=treeF l.length l
theorem treeF_more:∀ (f f':Nat) (l:List Hsh),l.length≤f→l.length≤f'→treeF f l=treeF f' l
 | 0,0,_,_,_=>rfl
 | 0,f' + 1,l,h,_=>by
  have:l=[]:=List.eq_nil_of_length_eq_zero (by omega)
  subst this
  rfl
 | f + 1,0,l,_,h=>by
  have:l=[]:=List.eq_nil_of_length_eq_zero (by omega)
  subst this
  rfl
 | f + 1,f' + 1,[],_,_=>rfl
 | f + 1,f' + 1,[x],_,_=>rfl
 | f + 1,f' + 1,x::y::l,h,h'=>by
  simp only [List.length_cons] at h h'
  unfold treeF
  simp only
  rw [treeF_more f f' _ (by simp [List.length_take];omega) (by simp [List.length_take];omega),treeF_more f f' (List.drop _ _) (by simp;omega) (by simp;omega)]
theorem treeH_step (l:List Hsh)(h:2≤l.length):treeH l=nodeH (treeH (l.take ((l.length + 1) / 2))) (treeH (l.drop ((l.length + 1) / 2))):=by
 match l,h with
 | x::y::l,_=>
  show nodeH (treeF (y::l).length _) (treeF (y::l).length _)=_
  rw [treeF_more (y::l).length _ (List.take _ _) (by simp [List.length_take];omega) (Nat.le_refl _),treeF_more (y::l).length _ (List.drop _ _) (by simp;omega) (Nat.le_refl _)]
  rfl
theorem tree_ans (n:Nat):n≤1000000→∀ {l:List Hsh} {xs:List AV} {id:Option Value} [Hshs xs l],Ans Tryz.prog GL 276 [.sl 32 xs id] (l.length≤n) (hA (treeH l)):=by
 induction n with
 | zero=>
  intro _ l xs id hx
  refine⟨fun hl=>?_⟩
  have h:=hx.out
  subst h
  obtain rfl:l=[]:=List.eq_nil_of_length_eq_zero (by omega)
  refine spec_enter Tryz.func276 rfl Tryz.ntmps276 rfl (fun _ hs=>?_)
  repeat' first|refine Wz ?_|intro _
  refine reE ?_
  rfl
 | succ n ih=>
  intro hn l xs id hx
  have ih:=@ih (by omega)
  refine⟨fun hl=>?_⟩
  have h:=hx.out
  subst h
  have hm:(l.map hA).length=l.length:=List.length_map _
  refine spec_enter Tryz.func276 rfl Tryz.ntmps276 rfl (fun _ hs=>?_)
  repeat' first|refine Wz ?_|intro _
  refine ac_cond (fun h0=>?_) (fun h0=>?_)
  ·obtain rfl:l=[]:=List.eq_nil_of_length_eq_zero (by omega)
   repeat' first|refine Wz ?_|intro _
   refine reE ?_
   rfl
  ·repeat' first|refine Wz ?_|intro _
   refine ac_cond (fun h1=>?_) (fun h1=>?_)
   ·obtain⟨x,rfl⟩:∃ x,l=[x]:=List.length_eq_one_iff.1 (by omega)
    repeat' first|refine Wz ?_|intro _
    refine al_idxM 0 (show 0 < [x].length by simp) ?_
    repeat' first|refine Wz ?_|intro _
    refine reE ?_
    rfl
   ·repeat' first|refine Wz ?_|intro _
    have hk0:(((l.map hA).length:Int) + 1) / 2=(((l.length + 1) / 2:Nat):Int):=by omega
    rw [hk0]
    have hst:=treeH_step l (by omega)
    generalize hk:(l.length + 1) / 2=k at *
    apply obl_read [];exact rfl;exact rfl;kernel_rfl;intro _ _
    refine al_sliceD 0 k ?_
    exact al_nil (ae_got rfl rfl)
    repeat' first|refine Wz ?_|intro _
    apply obl_read [];exact rfl;exact rfl;kernel_rfl;intro _ _
    refine al_sliceD k l.length ?_
    exact al_nil (ae_got rfl rfl)
    repeat' first|refine Wz ?_|intro _
    refine reE ?_
    rw [hst,List.drop_zero,List.take_length]
    rfl
instance fnTree {l:List Hsh}{xs:List AV}{id:Option Value}[Hshs xs l]:Ans Tryz.prog GL 276 [.sl 32 xs id] (l.length≤1000000) (hA (treeH l)):=tree_ans 1000000 (Nat.le_refl _)
theorem leaf1 {g:Nat}{x:Ent}{v:Value}{done:List Hsh}(hl:done.length≤1000000):Av.Spec Tryz.prog GL 341 [entA x,ptr g] [.var g 48 (.sl 32 (done.map hA) (some v)),.tail 38 32 v] fun u m=>∃ v',u=.tup []∧m=[.var g 48 (.sl 32 ((done++[leafH x]).map hA) (some v')),.tail 38 32 v']:=by
 refine spec_enter Tryz.func341 rfl Tryz.ntmps341 rfl (fun _ hs=>?_)
 repeat' first|refine Wz ?_|intro _
 apply obl_fresh [2];exact rfl;exact rfl;exact rfl;kernel_rfl;intro _ _
 refine al_append (fun v'=>?_)
 refine al_nil (ae_fresh [.tail 38 32 v'] [] rfl rfl (List.Perm.refl _) rfl ?_)
 repeat' first|refine Wz ?_|intro _
 refine reN [.var g 48 (.sl 32 ((done++[leafH x]).map hA) (some v')),.tail 38 32 v'] ⟨v',rfl,rfl⟩ ?_
 rw [show (done++[leafH x]).map hA=done.map hA++[hA (leafH ⟨x.key,x.val⟩)] by simp]
 exact List.Sublist.cons _ (List.Sublist.refl _)
theorem ImpC.nilS {k:Nat}:ImpC nils (.sl k [] (some (.slice none 0 0))):=fun ok w cs h=>by
 rw [RC] at h
 rw [RC]
 exact⟨none,0,h.1,by simp,Nat.le_refl _,by simp [maxLen],by simp,by simp⟩
instance fnLeaves {d:List Ent}{xs:List AV}{id:Option Value}[hx:Ents xs d]:Ans Tryz.prog GL 277 [.agg 1 [.sl 2 xs id]] (d.length≤1000000) (.sl 32 ((d.map leafH).map hA) none):=⟨fun hl=>by
 have h:=hx.out
 subst h
 refine spec_enter Tryz.func277 rfl Tryz.ntmps277 rfl (fun _ hs=>?_)
 repeat' first|refine Wz ?_|intro _
 rename_i g1 g3
 refine al_makeFunc (vs:=[.pointer (some ⟨g3,0,none⟩)]) ?_
 repeat' first|refine Wz ?_|intro _
 refine ac_asV (g:=g3) (v':=.sl 32 [] (some (.slice none 0 0))) ImpC.nilS ?_
 refine ac_st (fun ok w h=>h.full 38 32 none 0) ?_
 refine ac_loop (α:=Nat × Value) (fun q=>[(3,ptr g3),(4,fnv 341 [.pointer (some ⟨g3,0,none⟩)]),(9,.sl 2 (d.map entA) none),(10,int (d.map entA).length),(11,int q.1)])
  (fun q=>[.tail 38 32 q.2,.var g3 48 (.sl 32 (((d.take q.1).map leafH).map hA) (some q.2))])
  (fun q=>q.1≤d.length) (fun q=>d.length - q.1) (0,.slice none 0 0) ⟨rfl,rfl,rfl,rfl,rfl,trivial⟩ ?_ (Nat.zero_le _) ?_
 ·exact sbl
 rintro⟨i,v⟩ g1
 dsimp only at g1 ⊢
 repeat' first|refine Wz ?_|intro _
 refine ac_cond (fun hlt=>?_) (fun hlt=>?_)
 ·have hlt':i < d.length:=by simpa using hlt
  repeat' first|refine Wz ?_|intro _
  refine al_idxM i hlt' ?_
  repeat' first|refine Wz ?_|intro _
  refine al_callV (args:=[entA d[i]]) (cs:=[.pointer (some ⟨g3,0,none⟩)]) [.var g3 48 (.sl 32 (((d.take i).map leafH).map hA) (some v)),.tail 38 32 v] _ (by rw [hs];exact leaf1 (x:=d[i]) (v:=v) (g:=g3) (done:=(d.take i).map leafH) (by simp;omega)) (fun u m1 hh=>?_) ((List.reverse_perm _).symm)
  obtain⟨v',rfl,rfl⟩:=hh
  refine al_st (fun ok w h=>h.perm (List.Perm.swap _ _ _)) ?_
  repeat' first|refine Wz ?_|intro _
  rw [show (d.take i).map leafH++[leafH d[i]]=(d.take (i + 1)).map leafH by rw [List.take_succ_eq_append_getElem hlt',List.map_append];rfl]
  refine ae_round (i + 1,v') ⟨rfl,rfl,rfl,rfl,rfl,trivial⟩ ?_ hlt' (by simp only;omega)
  exact sbl
 ·repeat' first|refine Wz ?_|intro _
  refine ae_as 2 Imp.sl ?_
  refine reE ?_
  rw [List.take_of_length_le (by simpa using hlt)]
  rfl⟩
instance fnRoot {d:List Ent}{xs:List AV}{id:Option Value}[hx:Ents xs d]:Ans Tryz.prog GL 177 [.agg 1 [.sl 2 xs id]] (d.length≤1000000) (hA (topH d.length (treeH (d.map leafH)))):=⟨fun hl=>by
 have h:=hx.out
 subst h
 have hm:(d.map leafH).length=d.length:=List.length_map _
 refine spec_enter Tryz.func177 rfl Tryz.ntmps177 rfl (fun _ hs=>?_)
 repeat' first|refine Wz ?_|intro _
 refine reE ?_
 rfl⟩
end Go.Proofs.YtppngnhckahbnaaGreatDoor

namespace Go.Proofs.YtppngnhckahbnaaGreatDoor
open Go Go.RowKit Tw Av
def getR (l:List Ent)(k:Bs):Option Ent:=l.find? fun x=>decide (x.key=k)
theorem getR_cons {l:List Ent}{k:Bs}{i:Nat}(h:i < l.length):getR (l.drop i) k=if l[i].key=k then some l[i] else getR (l.drop (i + 1)) k:=by
 rw [List.drop_eq_getElem_cons h]
 unfold getR
 rw [List.find?_cons]
 by_cases h:l[i].key=k <;> simp [h]
instance fnRGet {l:List Ent}{k:Bs}{xs:List AV}{id:Option Value}[hx:Ents xs l]:Ans Tryz.prog GL 41 [.sl 2 xs id,str k] (l.length≤1073741823) (.tup [str (((getR l k).map (·.val)).getD []),boo (getR l k).isSome]):=⟨fun hl=>by
 have h:=hx.out
 subst h
 refine spec_enter Tryz.func41 rfl Tryz.ntmps41 rfl (fun _ hs=>?_)
 repeat' first|refine Wz ?_|intro _
 refine ac_loop (α:=Nat) (fun i=>[(0,.sl 2 (l.map entA) id),(1,str k),(6,int i)]) (fun _=>[]) (fun i=>i≤l.length∧getR (l.drop i) k=getR l k) (fun i=>l.length - i) 0 ⟨rfl,rfl,rfl,trivial⟩ (List.Sublist.refl _) ⟨Nat.zero_le _,rfl⟩ ?_
 rintro i ⟨g1,g2⟩
 repeat' first|refine Wz ?_|intro _
 refine ac_cond (fun hlt=>?_) (fun hlt=>?_)
 ·have hlt':i < l.length:=by simpa using hlt
  rw [getR_cons hlt'] at g2
  repeat' first|refine Wz ?_|intro _
  refine al_idxM i hlt' ?_
  repeat' first|refine Wz ?_|intro _
  refine ac_cond (fun he=>?_) (fun he=>?_)
  ·rw [if_pos he] at g2
   repeat' first|refine Wz ?_|intro _
   refine al_idxM i hlt' ?_
   repeat' first|refine Wz ?_|intro _
   refine reE ?_
   simp [outOf,← g2]
  ·rw [if_neg he] at g2
   repeat' first|refine Wz ?_|intro _
   exact ae_round (i + 1) ⟨rfl,rfl,rfl,trivial⟩ (List.Sublist.refl _) ⟨hlt',g2⟩ (by omega)
 ·repeat' first|refine Wz ?_|intro _
  refine reE ?_
  rw [List.drop_of_length_le (by simpa using hlt)] at g2
  rw [← g2]
  rfl⟩
end Go.Proofs.YtppngnhckahbnaaGreatDoor

namespace Go.Proofs.YtppngnhckahbnaaGreatDoor
open Go Go.RowKit Tw Av
def stepR (k v:Bs)(acc:List Ent × Bool)(x:Ent):List Ent × Bool:=
 let a:=if acc.2=false∧blt x.key k=false then (acc.1++[(⟨k,v⟩:Ent)],true) else acc
 if x.key=k then a else (a.1++[x],a.2)
def outR (l:List Ent)(k v:Bs):List Ent:=
 let a:=l.foldl (stepR k v) ([],false)
 if a.2=true then a.1 else a.1++[(⟨k,v⟩:Ent)]
def putRE (l:List Ent)(k v:Bs):Int:=if 400 < k.length∨4000 < v.length then 11 else if (getR l k).isSome=false∧2000≤l.length then 15 else 0
def putRA (l:List Ent)(k v:Bs):AV:=if putRE l k v=0 then .sl 2 ((outR l k v).map entA) none else nils
set_option maxHeartbeats 2000000 in
instance fnRPut {l:List Ent}{k v:Bs}{xs:List AV}{id:Option Value}[hx:Ents xs l]:Ans Tryz.prog GL 82 [.sl 2 xs id,str k,str v] (l.length≤1073741823) (.tup [putRA l k v,int (putRE l k v)]):=⟨fun hl=>by
 have h:=hx.out
 subst h
 refine spec_enter Tryz.func82 rfl Tryz.ntmps82 rfl (fun _ hs=>?_)
 repeat' first|refine Wz ?_|intro _
 refine gu1 (fun h1=>?_) (fun h1=>?_)
 ·repeat' first|refine Wz ?_|intro _
  refine reE ?_
  have hh:400 < k.length:=by omega
  have:putRE l k v=11:=by simp [putRE,hh]
  simp [outOf,putRA,this]
 ·repeat' first|refine Wz ?_|intro _
  refine ac_cond (fun h2=>?_) (fun h2=>?_)
  ·repeat' first|refine Wz ?_|intro _
   refine reE ?_
   have hh:4000 < v.length:=by omega
   have:putRE l k v=11:=by simp [putRE,hh]
   simp [outOf,putRA,this]
  ·repeat' first|refine Wz ?_|intro _
   have hne:¬ (400 < k.length∨4000 < v.length):=by omega
   have hmain:∀ hok:putRE l k v=0,putRA l k v=.sl 2 ((outR l k v).map entA) none:=fun hok=>by simp [putRA,hok]
   refine gu2 (fun hg=>?_) (fun hg=>?_)
   focus
    repeat' first|refine Wz ?_|intro _
    refine ac_cond (fun h4=>?_) (fun h4=>?_)
    focus
     repeat' first|refine Wz ?_|intro _
     refine reE ?_
     have e1:putRE l k v=15:=by
      have h5:2000≤l.length:=by simp at h4;omega
      have h6:(getR l k).isSome=false:=by simpa using hg
      simp only [putRE,if_neg hne,h6,h5,and_self,if_true]
     simp [outOf,putRA,e1]
    have hok:putRE l k v=0:=by
     have h5:¬ 2000≤l.length:=by simp at h4;omega
     simp only [putRE,if_neg hne,h5,and_false,if_false]
   rotate_left
   focus
    have hok:putRE l k v=0:=by
     have h6:(getR l k).isSome=true:=by simpa using hg
     simp [putRE,hne,h6]
   all_goals
    rw [hmain hok,hok]
    repeat' first|refine Wz ?_|intro _
   all_goals
    refine ac_as 10 (Imp.nil (k:=2)) ?_
    refine ac_st (fun ok w h=>h.full 89 2 none 0) ?_
    refine ac_loop (α:=Nat × Value × (List Ent × Bool)) (fun q=>[(0,.sl 2 (l.map entA) id),(1,str k),(2,str v),(10,.sl 2 (q.2.2.1.map entA) (some q.2.1)),(11,boo q.2.2.2),(12,int q.1)]) (fun q=>[.tail 89 2 q.2.1])
     (fun q=>q.1≤l.length∧q.2.2.1.length≤2 * q.1∧(l.drop q.1).foldl (stepR k v) q.2.2=l.foldl (stepR k v) ([],false)) (fun q=>l.length - q.1) (0,.slice none 0 0,[],false) ⟨rfl,rfl,rfl,rfl,rfl,rfl,trivial⟩ (List.Sublist.refl _) ⟨Nat.zero_le _,by simp,rfl⟩ ?_
    rintro⟨i,u,done,b⟩ ⟨g1,g2,g3⟩
    dsimp only at g1 g2 g3 ⊢
    repeat' first|refine Wz ?_|intro _
    refine ac_cond (fun hlt=>?_) (fun hlt=>?_)
    focus
     have hlt':i < l.length:=by simpa using hlt
     rw [List.drop_eq_getElem_cons hlt',List.foldl_cons] at g3
     cases b
     focus
      repeat' first|refine Wz ?_|intro _
      refine al_idxM i hlt' ?_
      repeat' first|refine Wz ?_|intro _
      refine ac_condB (fun hb=>?_) (fun hb=>?_)
      focus
       repeat' first|refine Wz ?_|intro _
       refine al_append (fun u'=>?_)
       repeat' first|refine Wz ?_|intro _
       refine al_idxM i hlt' ?_
       repeat' first|refine Wz ?_|intro _
       have hb':blt l[i].key k=false:=by simpa using hb
       refine ac_cond (fun hk=>?_) (fun hk=>?_)
       focus
        repeat' first|refine Wz ?_|intro _
        refine al_idxM i hlt' ?_
        repeat' first|refine Wz ?_|intro _
        refine al_append (fun u''=>?_)
        repeat' first|refine Wz ?_|intro _
        have e:stepR k v (done,false) l[i]=(done++[(⟨k,v⟩:Ent)]++[l[i]],true):=by simp [stepR,hb',hk]
        rw [e] at g3
        refine ae_as 10 (v':=.sl 2 ((done++[(⟨k,v⟩:Ent)]++[l[i]]).map entA) (some u'')) (Imp.of_eq ?_) ?_
        focus simp
        exact ae_round (i + 1,u'',done++[(⟨k,v⟩:Ent)]++[l[i]],true) ⟨rfl,rfl,rfl,rfl,rfl,rfl,trivial⟩ (List.Sublist.refl _) ⟨hlt',by simp;omega,g3⟩ (by simp only;omega)
       have hk':l[i].key=k:=by simpa using hk
       repeat' first|refine Wz ?_|intro _
       have e:stepR k v (done,false) l[i]=(done++[(⟨k,v⟩:Ent)],true):=by simp [stepR,hb',if_pos hk']
       rw [e] at g3
       refine ae_as 10 (v':=.sl 2 ((done++[(⟨k,v⟩:Ent)]).map entA) (some u')) (Imp.of_eq ?_) ?_
       focus simp
       exact ae_round (i + 1,u',done++[(⟨k,v⟩:Ent)],true) ⟨rfl,rfl,rfl,rfl,rfl,rfl,trivial⟩ (List.Sublist.refl _) ⟨hlt',by simp;omega,g3⟩ (by simp only;omega)
      repeat' first|refine Wz ?_|intro _
      refine al_idxM i hlt' ?_
      repeat' first|refine Wz ?_|intro _
      have hb':blt l[i].key k=true:=by simpa using hb
      refine ac_cond (fun hk=>?_) (fun hk=>?_)
      focus
       repeat' first|refine Wz ?_|intro _
       refine al_idxM i hlt' ?_
       repeat' first|refine Wz ?_|intro _
       refine al_append (fun u''=>?_)
       repeat' first|refine Wz ?_|intro _
       have e:stepR k v (done,false) l[i]=(done++[l[i]],false):=by simp [stepR,hb',hk]
       rw [e] at g3
       refine ae_as 10 (v':=.sl 2 ((done++[l[i]]).map entA) (some u'')) (Imp.of_eq ?_) ?_
       focus simp
       exact ae_round (i + 1,u'',done++[l[i]],false) ⟨rfl,rfl,rfl,rfl,rfl,rfl,trivial⟩ (List.Sublist.refl _) ⟨hlt',by simp;omega,g3⟩ (by simp only;omega)
      have hk':l[i].key=k:=by simpa using hk
      repeat' first|refine Wz ?_|intro _
      have e:stepR k v (done,false) l[i]=(done,false):=by simp [stepR,hb',if_pos hk']
      rw [e] at g3
      exact ae_round (i + 1,u,done,false) ⟨rfl,rfl,rfl,rfl,rfl,rfl,trivial⟩ (List.Sublist.refl _) ⟨hlt',by simp;omega,g3⟩ (by simp only;omega)
     repeat' first|refine Wz ?_|intro _
     refine al_idxM i hlt' ?_
     repeat' first|refine Wz ?_|intro _
     refine ac_cond (fun hk=>?_) (fun hk=>?_)
     focus
      repeat' first|refine Wz ?_|intro _
      refine al_idxM i hlt' ?_
      repeat' first|refine Wz ?_|intro _
      refine al_append (fun u''=>?_)
      repeat' first|refine Wz ?_|intro _
      have e:stepR k v (done,true) l[i]=(done++[l[i]],true):=by simp [stepR,hk]
      rw [e] at g3
      refine ae_as 10 (v':=.sl 2 ((done++[l[i]]).map entA) (some u'')) (Imp.of_eq ?_) ?_
      focus simp
      exact ae_round (i + 1,u'',done++[l[i]],true) ⟨rfl,rfl,rfl,rfl,rfl,rfl,trivial⟩ (List.Sublist.refl _) ⟨hlt',by simp;omega,g3⟩ (by simp only;omega)
     have hk':l[i].key=k:=by simpa using hk
     repeat' first|refine Wz ?_|intro _
     have e:stepR k v (done,true) l[i]=(done,true):=by simp [stepR,hk']
     rw [e] at g3
     exact ae_round (i + 1,u,done,true) ⟨rfl,rfl,rfl,rfl,rfl,rfl,trivial⟩ (List.Sublist.refl _) ⟨hlt',by simp;omega,g3⟩ (by simp only;omega)
    rw [List.drop_of_length_le (by simpa using hlt),List.foldl_nil] at g3
    cases b
    focus
     repeat' first|refine Wz ?_|intro _
     refine al_append (fun u''=>?_)
     repeat' first|refine Wz ?_|intro _
     refine ae_as 6 Imp.sl ?_
     refine reE ?_
     have e:outR l k v=done++[(⟨k,v⟩:Ent)]:=by simp [outR,← g3]
     rw [e]
     simp [outOf]
    repeat' first|refine Wz ?_|intro _
    refine ae_as 6 Imp.sl ?_
    refine reE ?_
    have e:outR l k v=done:=by simp [outR,← g3]
    rw [e]
    rfl⟩
end Go.Proofs.YtppngnhckahbnaaGreatDoor

namespace Go.Proofs.YtppngnhckahbnaaGreatDoor
open Go Go.RowKit Tw Av
def putRS (d:List Ent)(x:Ent):List Ent:=if putRE d x.key x.val=0 then outR d x.key x.val else d
def refOf (l:List Ent):List Ent:=l.foldl putRS []
def muR (a:List Ent × Bool):Nat:=a.1.length + (if a.2=true then 0 else 1)
theorem stepR_mu (k v:Bs)(a:List Ent × Bool)(x:Ent):muR (stepR k v a x)≤muR a + 1:=by
 obtain⟨d,b⟩:=a
 unfold stepR muR
 cases b <;> by_cases h1:blt x.key k=false <;> by_cases h2:x.key=k <;> simp [h1,h2] <;> (try split) <;> simp <;> omega
theorem foldR_mu (k v:Bs):∀ (l:List Ent) (a:List Ent × Bool),muR (l.foldl (stepR k v) a)≤muR a + l.length
 | [],a=>by simp
 | x::l,a=>by
  rw [List.foldl_cons]
  have h1:=foldR_mu k v l (stepR k v a x)
  have h2:=stepR_mu k v a x
  simp only [List.length_cons]
  omega
theorem outR_len (l:List Ent)(k v:Bs):(outR l k v).length≤l.length + 1:=by
 have h:=foldR_mu k v l ([],false)
 have h2:muR ([],false)=1:=rfl
 unfold outR
 unfold muR at h h2
 dsimp only
 split
 ·rename_i h3
  rw [if_pos h3] at h
  simp at h h2
  omega
 ·rename_i h3
  rw [if_neg h3] at h
  simp at h h2 ⊢
  omega
theorem putRS_len (d:List Ent)(x:Ent):(putRS d x).length≤d.length + 1:=by
 unfold putRS
 split
 ·exact outR_len _ _ _
 ·omega
set_option maxHeartbeats 2000000 in
instance fnROf {l:List Ent}{xs:List AV}{id:Option Value}[hx:Ents xs l]:Ans Tryz.prog GL 34 [.sl 2 xs id] (l.length≤1000000) (.sl 2 ((refOf l).map entA) none):=⟨fun hl=>by
 have h:=hx.out
 subst h
 refine spec_enter Tryz.func34 rfl Tryz.ntmps34 rfl (fun _ hs=>?_)
 repeat' first|refine Wz ?_|intro _
 refine ac_as 3 (Imp.nilN (k:=2)) ?_
 refine ac_loop (α:=Nat × List Ent) (fun q=>[(0,.sl 2 (l.map entA) id),(3,.sl 2 (q.2.map entA) none),(4,int q.1)]) (fun _=>[]) (fun q=>q.1≤l.length∧q.2.length≤q.1∧(l.drop q.1).foldl putRS q.2=refOf l) (fun q=>l.length - q.1) (0,[]) ⟨rfl,rfl,rfl,trivial⟩ (List.Sublist.refl _) ⟨Nat.zero_le _,by simp,rfl⟩ ?_
 rintro⟨i,d⟩ ⟨g1,g2,g3⟩
 dsimp only at g1 g2 g3 ⊢
 repeat' first|refine Wz ?_|intro _
 refine ac_cond (fun hlt=>?_) (fun hlt=>?_)
 ·have hlt':i < l.length:=by simpa using hlt
  rw [List.drop_eq_getElem_cons hlt',List.foldl_cons] at g3
  have hpl:=putRS_len d l[i]
  repeat' first|refine Wz ?_|intro _
  apply obl_read [];exact rfl;exact rfl;kernel_rfl;intro _ _
  refine al_idxM i hlt' ?_
  exact al_nil (ae_got rfl rfl)
  repeat' first|refine Wz ?_|intro _
  apply obl_read [];exact rfl;exact rfl;kernel_rfl;intro _ _
  refine al_idxM i hlt' ?_
  exact al_nil (ae_got rfl rfl)
  repeat' first|refine Wz ?_|intro _
  refine ac_cond (fun h0=>?_) (fun h0=>?_)
  ·have e1:putRA d l[i].key l[i].val=.sl 2 ((putRS d l[i]).map entA) none:=by simp [putRA,putRS,h0]
   rw [e1]
   repeat' first|refine Wz ?_|intro _
   exact ae_round (i + 1,putRS d l[i]) ⟨rfl,rfl,rfl,trivial⟩ (List.Sublist.refl _) ⟨hlt',by simp only;omega,g3⟩ (by simp only;omega)
  ·have e1:putRS d l[i]=d:=by simp [putRS,h0]
   rw [e1] at g3
   repeat' first|refine Wz ?_|intro _
   exact ae_round (i + 1,d) ⟨rfl,rfl,rfl,trivial⟩ (List.Sublist.refl _) ⟨hlt',by simp only;omega,g3⟩ (by simp only;omega)
 ·repeat' first|refine Wz ?_|intro _
  refine reE ?_
  rw [List.drop_of_length_le (by simpa using hlt)] at g3
  rw [← g3]
  rfl⟩
end Go.Proofs.YtppngnhckahbnaaGreatDoor
