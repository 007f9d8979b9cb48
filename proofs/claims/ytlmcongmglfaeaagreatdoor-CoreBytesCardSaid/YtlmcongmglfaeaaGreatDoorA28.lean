/- sides and gaps, written, walked both ways -/
import Derived.Test.YtlmcongmglfaeaaGreatDoorA16
import Derived.Test.YtlmcongmglfaeaaGreatDoorA22
import Derived.Test.YtlmcongmglfaeaaGreatDoorA23
import Derived.Test.YtlmcongmglfaeaaGreatDoorA26
import Derived.Test.YtlmcongmglfaeaaGreatDoorA27
namespace Go.Proofs.YtlmcongmglfaeaaGreatDoor
open Go Go.RowKit Tw Av
theorem up_ans (N:Nat):N<=2000->∀ {n i:Nat} {h:Hsh} {p:List Hsh} {xs:List AV} {id:Option Value} [Hshs xs p],Ans Tryz.prog GL 266 [int n,int i,hA h,.sl 32 xs id] (n<=N/\i < n/\p.length=(turns n i).length) (hA (upH (turns n i) h p)):=by
 induction N with
 | zero=>exact fun _=>⟨fun hc=>absurd hc.2.1 (by omega)⟩
 | succ N ih=>
  intro hN n i h p xs id hx
  have ih:=@ih (by omega)
  refine⟨fun hc=>?_⟩
  obtain⟨c1,c2,c3⟩:=hc
  have hh:=hx.out
  subst hh
  have hm:(p.map hA).length=p.length:=llm _
  refine qE Tryz.func266 rfl Tryz.ntmps266 rfl (fun _ hs=>?_)
  repeat' first|refine Wz ?_|intro _
  refine ac_cond (fun h1=>?_) (fun h1=>?_)
  ·obtain rfl:n=1:=by omega
   repeat' first|refine Wz ?_|intro _
   refine reE ?_
   rfl
  ·have hr:=way_row c2 (by omega)
   have hk0:((n:Int) + 1) / 2=(((n + 1) / 2:Nat):Int):=by omega
   have hpb:p.length<=n:=by rw [c3];exact turns_len n n i (Nat.le_refl _)
   rw [hr,List.length_cons] at c3
   have hpn:p.length - 1 < p.length:=by omega
   have hpe:p=p.take (p.length - 1)++[p[p.length - 1]]:=by
    rw [<- List.take_succ_eq_append_getElem hpn,show p.length - 1 + 1=p.length by omega,List.take_length]
   have hup:∀ t ts,upH (t::ts) h p=if t.1=true then nodeH (upH ts h (p.take (p.length - 1))) p[p.length - 1] else nodeH p[p.length - 1] (upH ts h (p.take (p.length - 1))):=fun t ts=>by
    have:=upH_snoc t ts h p[p.length - 1] (p.take (p.length - 1))
    rwa [<- hpe] at this
   have htl:((p.take (p.length - 1)).drop 0).length=p.length - 1:=by simp
   repeat' first|refine Wz ?_|intro _
   rw [hk0]
   generalize hk:(n + 1) / 2=k at *
   refine al_idxM (l:=p) (f:=hA) (p.length - 1) hpn ?_
   repeat' first|refine Wz ?_|intro _
   refine ac_cond (fun hlt=>?_) (fun hlt=>?_)
   ·have hik:i < k:=by omega
    rw [if_pos hik,if_pos hik] at hr c3
    repeat' first|refine Wz ?_|intro _
    apply obl_read [];exact rfl;exact rfl;kernel_rfl;intro _ _
    refine al_sliceD 0 (p.length - 1) ?_
    exact al_nil (ae_got rfl rfl)
    apply obl_read [];exact rfl;exact rfl;kernel_rfl;intro _ _
    refine al_callE (hp:=by exact⟨by omega,hik,by rw [htl];omega⟩) ?_
    exact al_nil (ae_got rfl rfl)
    repeat' first|refine Wz ?_|intro _
    refine reE ?_
    rw [hr,hup,if_pos (by simpa using hik),List.drop_zero]
    rfl
   ·have hik:¬ i < k:=by omega
    rw [if_neg hik,if_neg hik] at hr c3
    repeat' first|refine Wz ?_|intro _
    have e1:(n:Int) - (k:Int)=((n - k:Nat):Int):=by omega
    have e2:(i:Int) - (k:Int)=((i - k:Nat):Int):=by omega
    rw [e1,e2]
    repeat' first|refine Wz ?_|intro _
    apply obl_read [];exact rfl;exact rfl;kernel_rfl;intro _ _
    refine al_sliceD 0 (p.length - 1) ?_
    exact al_nil (ae_got rfl rfl)
    apply obl_read [];exact rfl;exact rfl;kernel_rfl;intro _ _
    refine al_callE (hp:=by exact⟨by omega,by omega,by rw [htl];omega⟩) ?_
    exact al_nil (ae_got rfl rfl)
    repeat' first|refine Wz ?_|intro _
    refine reE ?_
    rw [hr,hup,if_neg (by simpa using hik),List.drop_zero]
    rfl
theorem pathH_bad {l:List Hsh}{i:Int}(h:i < 0\/(l.length:Int)<=i\/l.length < 2):pathH l i=[]:=by
 unfold pathH wayOf
 by_cases hc:i < 0\/(l.length:Int)<=i\/2000 < (l.length:Int)
 ·rw [if_pos hc]
  rfl
 ·rw [if_neg hc]
  have h1:l.length=1:=by omega
  rw [show (l.length:Int).toNat=1 by omega,turns_one]
  rfl
theorem pathH_step {l:List Hsh}{i k:Nat}(h:i < l.length)(h1:1 < l.length)(h2:l.length<=2000)(hk:(l.length + 1) / 2=k):pathH l i=if i < k then pathH (l.take k) i++[treeH (l.drop k)] else pathH (l.drop k) ((i - k:Nat):Int)++[treeH (l.take k)]:=by
 have e1:pathH l i=(pathDown (turns l.length i) l).reverse:=by rw [pathH,way_eq h h2]
 rw [e1,way_row h h1,hk,pathDown]
 by_cases hik:i < k
 ·have hl:(l.take k).length=k:=by simp;omega
  have e2:pathH (l.take k) i=(pathDown (turns k i) (l.take k)).reverse:=by rw [pathH,hl,way_eq hik (by omega)]
  rw [if_pos hik,e2]
  simp [hik]
 ·have hl:(l.drop k).length=l.length - k:=by simp
  have e2:pathH (l.drop k) ((i - k:Nat):Int)=(pathDown (turns (l.length - k) (i - k)) (l.drop k)).reverse:=by rw [pathH,hl,way_eq (by omega) (by omega)]
  rw [if_neg hik,e2]
  simp [hik]
theorem rpath_ans (N:Nat):N<=2000->∀ {d:List Ent} {i:Int} {xs:List AV} {id:Option Value} [Ents xs d],Ans Tryz.prog GL 196 [.sl 2 xs id,int i] (d.length<=N) (.sl 32 ((pathH (d.map leafH) i).map hA) none):=by
 induction N with
 | zero=>
  intro _ d i xs id hx
  refine⟨fun hl=>?_⟩
  have h:=hx.out
  subst h
  obtain rfl:d=[]:=List.eq_nil_of_length_eq_zero (by omega)
  rw [pathH_bad (.inr (.inr (by simp)))]
  refine qE Tryz.func196 rfl Tryz.ntmps196 rfl (fun _ hs=>?_)
  repeat' first|refine Wz ?_|intro _
  refine gu1 (fun h1=>?_) (fun h1=>?_)
  ·repeat' first|refine Wz ?_|intro _
   refine ae_as 4 (Imp.nilN (k:=32)) ?_
   refine reE ?_
   rfl
  ·repeat' first|refine Wz ?_|intro _
   refine gu1 (fun h2=>?_) (fun h2=>?_)
   ·repeat' first|refine Wz ?_|intro _
    refine ae_as 4 (Imp.nilN (k:=32)) ?_
    refine reE ?_
    rfl
   ·exfalso
    simp at h2
    omega
 | succ N ih=>
  intro hN d i xs id hx
  have ih:=@ih (by omega)
  refine⟨fun hl=>?_⟩
  have h:=hx.out
  subst h
  have hm:(d.map entA).length=d.length:=llm _
  have hml:(d.map leafH).length=d.length:=llm _
  refine qE Tryz.func196 rfl Tryz.ntmps196 rfl (fun _ hs=>?_)
  repeat' first|refine Wz ?_|intro _
  refine gu1 (fun h1=>?_) (fun h1=>?_)
  ·repeat' first|refine Wz ?_|intro _
   refine ae_as 4 (Imp.nilN (k:=32)) ?_
   refine reE ?_
   rw [pathH_bad (.inl h1)]
   rfl
  ·repeat' first|refine Wz ?_|intro _
   refine gu1 (fun h2=>?_) (fun h2=>?_)
   ·repeat' first|refine Wz ?_|intro _
    refine ae_as 4 (Imp.nilN (k:=32)) ?_
    refine reE ?_
    rw [pathH_bad (.inr (.inl (by omega)))]
    rfl
   ·repeat' first|refine Wz ?_|intro _
    refine ac_cond (fun h3=>?_) (fun h3=>?_)
    ·repeat' first|refine Wz ?_|intro _
     refine ae_as 4 (Imp.nilN (k:=32)) ?_
     refine reE ?_
     rw [pathH_bad (.inr (.inr (by omega)))]
     rfl
    ·obtain⟨I,rfl⟩:∃ I:Nat,i=I:=⟨i.toNat,by omega⟩
     have hst:=pathH_step (l:=d.map leafH) (i:=I) (by omega) (by omega) (by omega) rfl
     rw [hml] at hst
     rw [hst]
     have hk0:(((d.map entA).length:Int) + 1) / 2=(((d.length + 1) / 2:Nat):Int):=by omega
     repeat' first|refine Wz ?_|intro _
     rw [hk0]
     generalize hk:(d.length + 1) / 2=k at *
     have hwl:∀ (l:List Hsh) (i:Int),(pathH l i).length<=l.length:=fun l i=>by rw [pathH_len];exact way_len _ _
     have hw1:=hwl ((d.map leafH).take k) I
     have hw2:=hwl ((d.map leafH).drop k) ((I - k:Nat):Int)
     rw [List.length_take] at hw1
     rw [List.length_drop] at hw2
     have hmt:(((d.map entA).take k).drop 0)=(d.take k).map entA:=by rw [List.drop_zero,List.map_take]
     have hmd:(((d.map entA).take d.length).drop k)=(d.drop k).map entA:=by rw [List.take_of_length_le (by omega),List.map_drop]
     refine ac_as 6 (Imp.nil (k:=32)) ?_
     refine ac_st (fun ok w h=>h.full 38 32 none 0) ?_
     repeat' first|refine Wz ?_|intro _
     refine ac_cond (fun hlt=>?_) (fun hlt=>?_)
     ·have hik:I < k:=by omega
      rw [if_pos hik]
      repeat' first|refine Wz ?_|intro _
      refine al_sliceD 0 k ?_
      rw [hmt]
      refine al_move ?_
      refine al_callE (hp:=by simp;omega) ?_
      rw [List.map_take]
      refine al_append (fun v=>?_)
      repeat' first|refine Wz ?_|intro _
      refine al_sliceD k d.length ?_
      rw [hmd]
      refine al_callE (hp:=by simp;omega) ?_
      repeat' first|refine Wz ?_|intro _
      refine al_append (fun v'=>?_)
      repeat' first|refine Wz ?_|intro _
      refine ae_as 4 Imp.sl ?_
      refine reE ?_
      simp [outOf]
     ·have hik:¬ I < k:=by omega
      rw [if_neg hik]
      repeat' first|refine Wz ?_|intro _
      refine al_sliceD k d.length ?_
      rw [hmd]
      repeat' first|refine Wz ?_|intro _
      rw [show (I:Int) - (k:Int)=((I - k:Nat):Int) by omega,List.map_drop]
      refine al_append (fun v=>?_)
      repeat' first|refine Wz ?_|intro _
      refine al_sliceD 0 k ?_
      rw [hmt]
      refine al_callE (hp:=by simp;omega) ?_
      repeat' first|refine Wz ?_|intro _
      refine al_append (fun v'=>?_)
      repeat' first|refine Wz ?_|intro _
      refine ae_as 4 Imp.sl ?_
      refine reE ?_
      simp [outOf]

theorem take_eq_step {α:Type}{a b:List α}{i:Nat}(h:a.take i=b.take i)(ha:i < a.length)(hb:i < b.length)(he:a[i]=b[i]):a.take (i + 1)=b.take (i + 1):=by
 rw [List.take_succ_eq_append_getElem ha,List.take_succ_eq_append_getElem hb,h,he]
instance fnHSame {a b:List Hsh}{xs ys:List AV}{id id2:Option Value}[hx:Hshs xs a][hy:Hshs ys b]:Ans Tryz.prog GL 178 [.sl 32 xs id,.sl 32 ys id2] (b.length<=1073741823) (boo (decide (a=b))):=⟨fun hbl=>by
 have h1:=hx.out
 have h2:=hy.out
 subst h1 h2
 have hma:(a.map hA).length=a.length:=llm _
 have hmb:(b.map hA).length=b.length:=llm _
 refine qE Tryz.func178 rfl Tryz.ntmps178 rfl (fun _ hs=>?_)
 repeat' first|refine Wz ?_|intro _
 refine ac_cond (fun hl=>?_) (fun hl=>?_)
 ·repeat' first|refine Wz ?_|intro _
  refine reE ?_
  have:a≠b:=fun e=>by subst e;omega
  simp [outOf,this]
 ·repeat' first|refine Wz ?_|intro _
  have hle:a.length=b.length:=by omega
  refine ac_loop (α:=Nat) (fun i=>[(0,.sl 32 (a.map hA) id),(1,.sl 32 (b.map hA) id2),(5,int i)]) (fun _=>[]) (fun i=>i<=a.length/\a.take i=b.take i) (fun i=>a.length - i) 0 ⟨rfl,rfl,rfl,trivial⟩ slr ⟨Nat.zero_le _,rfl⟩ ?_
  rintro i ⟨g1,g2⟩
  repeat' first|refine Wz ?_|intro _
  refine ac_cond (fun hlt=>?_) (fun hlt=>?_)
  ·have ha:i < a.length:=by omega
   have hb:i < b.length:=by omega
   repeat' first|refine Wz ?_|intro _
   apply obl_read [];exact rfl;exact rfl;kernel_rfl;intro _ _
   refine al_idxM (l:=a) (f:=hA) i ha ?_
   exact al_nil (ae_got rfl rfl)
   repeat' first|refine Wz ?_|intro _
   apply obl_read [];exact rfl;exact rfl;kernel_rfl;intro _ _
   refine al_idxM (l:=b) (f:=hA) i hb ?_
   exact al_nil (ae_got rfl rfl)
   repeat' (first|refine W ?_|refine opE ?_|refine obE ?_|refine ob2 (fun _=>?_)|intro _)
   refine ac_condB (fun hc=>?_) (fun hc=>?_)
   ·repeat' first|refine Wz ?_|intro _
    refine reE ?_
    have hne:a[i]≠b[i]:=by simpa using hc
    have:a≠b:=fun e=>by subst e;exact hne rfl
    simp [outOf,this]
   ·repeat' first|refine Wz ?_|intro _
    exact ae_round (i + 1) ⟨rfl,rfl,rfl,trivial⟩ slr ⟨ha,take_eq_step g2 ha hb (by simpa using hc)⟩ (by omega)
  ·repeat' first|refine Wz ?_|intro _
   refine reE ?_
   rw [List.take_of_length_le (by omega),List.take_of_length_le (by omega)] at g2
   simp [outOf,g2]⟩


instance fnRPath {d:List Ent}{i:Int}{xs:List AV}{id:Option Value}[Ents xs d]:Ans Tryz.prog GL 196 [.sl 2 xs id,int i] (d.length<=2000) (.sl 32 ((pathH (d.map leafH) i).map hA) none):=rpath_ans 2000 (Nat.le_refl _)


structure Prf where
 a:Int
 m:Int
 p:List Hsh
deriving DecidableEq
structure Gp where
 n:Int
 l:List Ent
 r:List Ent
 a:Prf
 b:Prf
deriving DecidableEq
abbrev prfA (x:Prf):AV:=.agg 3 [int x.a,int x.m,.sl 32 (x.p.map hA) none]
abbrev gpA (x:Gp):AV:=.agg 9 [int x.n,.sl 2 (x.l.map entA) none,.sl 2 (x.r.map entA) none,prfA x.a,prfA x.b]
def zeroP:Prf:=⟨0,0,[]⟩
def zeroG:Gp:=⟨0,[],[],zeroP,zeroP⟩
def atP (d:List Ent)(i:Int):Prf:=⟨i,d.length,pathH (d.map leafH) i⟩
def memP (d:List Ent)(i:Nat)(is:Bool):Prf:=if is=true then atP d i else zeroP
def absG (d:List Ent)(i:Nat)(is:Bool):Gp:=if is=true then zeroG else
 ⟨d.length,if 0 < i then [d.getD (i - 1) ⟨[],[]⟩] else [],if i < d.length then [d.getD i ⟨[],[]⟩] else [],if 0 < i then atP d ((i - 1:Nat):Int) else zeroP,if i < d.length then atP d i else zeroP⟩
def holdsB (root:Hsh)(x:Ent)(p:Prf):Bool:=(foldH p.m p.a (leafH x) p.p).isSome && decide ((foldH p.m p.a (leafH x) p.p).getD zeroH=root)
def sideB (root:Hsh)(n:Int)(bes:Bs->Bool):List Ent->Prf->Bool
 | [],_=>true
 | [x],p=>bes x.key && (decide (p.m=n) && holdsB root x p)
 | _,_=>false
def endB (root:Hsh)(g:Gp):Bool:=match g.l,g.r with
 | [],[]=>decide (g.n=0) && decide (root=topH 0 (treeH []))
 | [],_=>decide (g.b.a=0)
 | _,[]=>decide (g.a.a=g.n - 1)
 | _,_=>decide (g.b.a=g.a.a + 1)
def missB (root:Hsh)(k:Bs)(g:Gp):Bool:=sideB root g.n (fun a=>blt a k) g.l g.a && (sideB root g.n (fun a=>blt k a) g.r g.b && endB root g)
def fndAt (l:List Ent)(k:Bs):Nat:=l.findIdx fun x=>!blt x.key k
def fndIs (l:List Ent)(k:Bs):Bool:=decide (fndAt l k < l.length/\(l.getD (fndAt l k) ⟨[],[]⟩).key=k)
theorem fndAt_le (l:List Ent)(k:Bs):fndAt l k<=l.length:=List.findIdx_le_length
theorem fndAt_step {l:List Ent}{k:Bs}{i:Nat}(hi:i < l.length)(hb:∀ j,(hj:j < i)->blt (l[j]'(by omega)).key k=true)(hh:blt l[i].key k=false):fndAt l k=i:=by
 unfold fndAt
 rw [List.findIdx_eq hi]
 exact⟨by simpa using hh,fun j hj=>by simpa using hb j hj⟩
theorem fndAt_none {l:List Ent}{k:Bs}(hb:∀ j,(hj:j < l.length)->blt l[j].key k=true):fndAt l k=l.length:=by
 unfold fndAt
 rw [List.findIdx_eq_length]
 intro x hx
 obtain⟨j,hj,rfl⟩:=List.getElem_of_mem hx
 simpa using hb j hj
theorem getD_at {α:Type}{l:List α}{i:Nat}{d:α}(h:i < l.length):l.getD i d=l[i]:=by simp [List.getD,h]
instance fnR8Find {l:List Ent}{k:Bs}{xs:List AV}{id:Option Value}[hx:Ents xs l]:Ans Tryz.prog GL 195 [.sl 2 xs id,str k] True (.tup [int (fndAt l k),boo (fndIs l k)]):=⟨fun _=>by
 have h:=hx.out
 subst h
 have hm:(l.map entA).length=l.length:=llm _
 refine qE Tryz.func195 rfl Tryz.ntmps195 rfl (fun _ hs=>?_)
 refine ac_bnd 0 (fun hb=>?_)
 have hb:=maxLen_le hb
 repeat' first|refine Vz ?_|intro _
 refine ac_loop (α:=Nat) (fun i=>[(0,.sl 2 (l.map entA) id),(1,str k),(6,int i)]) (fun _=>[]) (fun i=>i<=l.length/\∀ j,(hj:j < l.length)->j < i->blt l[j].key k=true) (fun i=>l.length - i) 0 ⟨rfl,rfl,rfl,trivial⟩ slr ⟨Nat.zero_le _,fun _ _ h=>absurd h (by omega)⟩ ?_
 rintro i ⟨g1,g2⟩
 repeat' first|refine Vz ?_|intro _
 refine ac_cond (fun hlt=>?_) (fun hlt=>?_)
 ·have hil:i < l.length:=by omega
  repeat' first|refine Vz ?_|intro _
  refine ac_condB (fun hc=>?_) (fun hc=>?_)
  ·repeat' (first|refine W ?_|refine op3 ?_|refine ob5 ?_|refine opE ?_|refine obE ?_|refine ob2 (fun _=>?_)|intro _)
   refine reE ?_
   have e:=fndAt_step hil (fun j hj=>g2 j (by omega) hj) (by simpa using hc)
   rw [fndIs,e,getD_at hil]
   simp [outOf,hil]
  ·repeat' first|refine Vz ?_|intro _
   refine ae_round (i + 1) ⟨rfl,rfl,rfl,trivial⟩ slr ⟨hil,fun j hj h=>?_⟩ (by omega)
   rcases Nat.lt_or_ge j i with h2|h2
   ·exact g2 j hj h2
   ·obtain rfl:j=i:=by omega
    simpa using hc
 ·obtain rfl:i=l.length:=by omega
  repeat' first|refine Vz ?_|intro _
  refine reE ?_
  have e:=fndAt_none (fun j hj=>g2 j hj hj)
  rw [fndIs,e]
  simp [outOf]⟩
attribute [irreducible] fndIs
instance fnESame {a b:List Ent}{xs ys:List AV}{id id2:Option Value}[hx:Ents xs a][hy:Ents ys b]:Ans Tryz.prog GL 13 [.sl 2 xs id,.sl 2 ys id2] True (boo (decide (a=b))):=⟨fun _=>by
 have h1:=hx.out
 have h2:=hy.out
 subst h1 h2
 have hma:(a.map entA).length=a.length:=llm _
 have hmb:(b.map entA).length=b.length:=llm _
 refine qE Tryz.func13 rfl Tryz.ntmps13 rfl (fun _ hs=>?_)
 refine ac_bnd 0 (fun hb=>?_)
 have hb:=maxLen_le hb
 repeat' first|refine Vz ?_|intro _
 refine ac_cond (fun hne=>?_) (fun he=>?_)
 ·repeat' first|refine Vz ?_|intro _
  refine reE ?_
  have:a≠b:=fun e=>by subst e;exact hne rfl
  simp [outOf,this]
 ·have hle:a.length=b.length:=by omega
  repeat' first|refine Vz ?_|intro _
  refine ac_loop (α:=Nat) (fun i=>[(0,.sl 2 (a.map entA) id),(1,.sl 2 (b.map entA) id2),(5,int i)]) (fun _=>[]) (fun i=>i<=a.length/\a.take i=b.take i) (fun i=>a.length - i) 0 ⟨rfl,rfl,rfl,trivial⟩ slr ⟨Nat.zero_le _,rfl⟩ ?_
  rintro i ⟨g1,g2⟩
  repeat' first|refine Vz ?_|intro _
  refine ac_cond (fun hlt=>?_) (fun hlt=>?_)
  ·have ha:i < a.length:=by omega
   have hb:i < b.length:=by omega
   repeat' (first|refine W ?_|refine op3 ?_|refine ob5 ?_|refine opE ?_|refine obE ?_|refine ob2 (fun _=>?_)|intro _)
   have hk:decide (a[i]=b[i])=(decide (a[i].key=b[i].key) && (decide (a[i].val=b[i].val) && true)):=by
    rw [show a[i]=⟨a[i].key,a[i].val⟩ from rfl,show b[i]=⟨b[i].key,b[i].val⟩ from rfl]
    simp [Ent.mk.injEq]
   rw [<- hk]
   refine ac_condB (fun hc=>?_) (fun hc=>?_)
   ·repeat' first|refine Vz ?_|intro _
    refine reE ?_
    have hne:a[i]≠b[i]:=by simpa using hc
    have:a≠b:=fun e=>by subst e;exact hne rfl
    simp [outOf,this]
   ·repeat' first|refine Vz ?_|intro _
    exact ae_round (i + 1) ⟨rfl,rfl,rfl,trivial⟩ slr ⟨ha,take_eq_step g2 ha hb (by simpa using hc)⟩ (by omega)
  ·repeat' first|refine Vz ?_|intro _
   refine reE ?_
   rw [List.take_of_length_le (by omega),List.take_of_length_le (by omega)] at g2
   simp [outOf,g2]⟩
theorem imp_zeroP:Imp (.tup [.agg 3 [int 0,int 0,.lit (.slice none 0 0)],boo false]) (.tup [prfA zeroP,boo false]):=(inferInstance:ImpR _ (.tup [.agg 3 [int 0,int 0,.sl 32 [] none],boo false])).imp
instance fnRMember {d:List Ent}{k:Bs}{xs:List AV}{id:Option Value}[hx:Ents xs d]:Ans Tryz.prog GL 119 [.sl 2 xs id,str k] (d.length<=2000) (.tup [prfA (memP d (fndAt d k) (fndIs d k)),boo (fndIs d k)]):=⟨fun hl=>by
 have h:=hx.out
 subst h
 refine qE Tryz.func119 rfl Tryz.ntmps119 rfl (fun _ hs=>?_)
 repeat' first|refine Vz ?_|intro _
 cases hb:fndIs d k
 ·repeat' first|refine Vz ?_|intro _
  refine reI ?_
  exact imp_zeroP
 ·repeat' first|refine Vz ?_|intro _
  refine reE ?_
  simp [outOf,memP,atP]⟩

instance fnPSame {xs ys:List AV}{id id2:Option Value}{i m i2 m2:Int}{p q:List Hsh}[hx:Hshs xs p][hy:Hshs ys q]:Ans Tryz.prog GL 99 [.agg 3 [int i,int m,.sl 32 xs id],.agg 3 [int i2,int m2,.sl 32 ys id2]] (q.length<=1073741823) (boo (decide (p=q) && (decide (i=i2) && decide (m=m2)))):=⟨fun hl=>by
 have h1:=hx.out
 have h2:=hy.out
 subst h1 h2
 refine qE Tryz.func99 rfl Tryz.ntmps99 rfl (fun _ hs=>?_)
 repeat' first|refine Vz ?_|intro _
 cases hb:decide (p=q)
 ·repeat' first|refine Zz ?_|intro _
  refine reE ?_
  simp [outOf]
 ·by_cases hi:i=i2
  ·repeat' first|refine Zz ?_|intro _
   refine reE ?_
   simp [outOf,hi]
  ·repeat' first|refine Zz ?_|intro _
   refine reE ?_
   simp [outOf,hi]⟩

theorem fnd_at {l:List Ent}{i:Nat}(h:Srt l)(hi:i < l.length):fndAt l l[i].key=i/\fndIs l l[i].key=true:=by
 have h1:fndAt l l[i].key=i:=by
  refine fndAt_step hi (fun j hj=>?_) (blt_irrefl _)
  exact List.pairwise_iff_getElem.1 h j i (by omega) hi hj
 refine⟨h1,?_⟩
 rw [fndIs,h1,getD_at hi]
 simp [hi]
theorem memP_at {l:List Ent}{i:Nat}(h:Srt l)(hi:i < l.length):memP l (fndAt l l[i].key) (fndIs l l[i].key)=atP l i:=by
 obtain⟨h1,h2⟩:=fnd_at h hi
 rw [h1,h2]
 rfl
instance fnRAbsent {d:List Ent}{k:Bs}{xs:List AV}{id:Option Value}[hx:Ents xs d]:Ans Tryz.prog GL 120 [.sl 2 xs id,str k] (d.length<=2000/\Srt d) (.tup [gpA (absG d (fndAt d k) (fndIs d k)),boo (!fndIs d k)]):=⟨fun hpre=>by
 obtain⟨hl,hsr⟩:=hpre
 have h:=hx.out
 subst h
 have hm:(d.map entA).length=d.length:=llm _
 refine qE Tryz.func120 rfl Tryz.ntmps120 rfl (fun _ hs=>?_)
 repeat' first|refine Vz ?_|intro _
 cases hb:fndIs d k
 focus
  repeat' first|refine Vz ?_|intro _
  have hle:=fndAt_le d k
  generalize fndAt d k=n at *
  have e2:∀ n:Nat,(((n + 1:Nat):Int) - 1)=n:=fun n=>by omega
  by_cases h1:n < d.length
  all_goals
   rcases n with _|n
   focus
    repeat' first|refine Zz ?_|intro _
   rotate_left
   focus
    repeat' first|refine Zz ?_|intro _
    rw [e2]
    repeat' first|refine Zz ?_|intro _
    rw [e2]
    repeat' first|refine Zz ?_|intro _
    rw [memP_at hsr (show n < d.length by omega)]
   all_goals
    try rw [memP_at hsr h1]
    refine reI ?_
    simp only [outOf,hm,absG,atP,gpA,prfA,zeroP,Nat.lt_irrefl,Nat.zero_lt_succ,Nat.add_sub_cancel,h1,if_true,if_false,List.map_cons,List.map_nil,Bool.not_false,Bool.false_eq_true]
    try rw [getD_at (show n < d.length by omega)]
    try rw [getD_at h1]
    exact ImpR.imp
 focus
  repeat' first|refine Vz ?_|intro _
  refine reI ?_
  simp only [outOf,absG,gpA,prfA,if_true,zeroG,zeroP,List.map_nil,Bool.not_true]
  exact ImpR.imp⟩


instance fnGSame {n n2:Int}{l r l2 r2:List Ent}{i m i2 m2 i3 m3 i4 m4:Int}{p q p2 q2:List Hsh}{xs ys zs ws xs2 ys2 zs2 ws2:List AV}[hx:Ents xs l][hy:Ents ys r][hz:Hshs zs p][hw:Hshs ws q][hx2:Ents xs2 l2][hy2:Ents ys2 r2][hz2:Hshs zs2 p2][hw2:Hshs ws2 q2] :
  Ans Tryz.prog GL 100 [.agg 9 [int n,.sl 2 xs none,.sl 2 ys none,.agg 3 [int i,int m,.sl 32 zs none],.agg 3 [int i2,int m2,.sl 32 ws none]],.agg 9 [int n2,.sl 2 xs2 none,.sl 2 ys2 none,.agg 3 [int i3,int m3,.sl 32 zs2 none],.agg 3 [int i4,int m4,.sl 32 ws2 none]]]
   (p2.length<=1073741823/\q2.length<=1073741823) (boo (decide ((⟨n,l,r,⟨i,m,p⟩,⟨i2,m2,q⟩⟩:Gp)=⟨n2,l2,r2,⟨i3,m3,p2⟩,⟨i4,m4,q2⟩⟩))):=⟨fun hpre=>by
 obtain⟨c1,c2⟩:=hpre
 have h1:=hx.out
 have h2:=hy.out
 have h3:=hz.out
 have h4:=hw.out
 have h5:=hx2.out
 have h6:=hy2.out
 have h7:=hz2.out
 have h8:=hw2.out
 subst h1 h2 h3 h4 h5 h6 h7 h8
 refine qE Tryz.func100 rfl Tryz.ntmps100 rfl (fun _ hs=>?_)
 repeat' first|refine Vz ?_|intro _
 have e:decide ((⟨n,l,r,⟨i,m,p⟩,⟨i2,m2,q⟩⟩:Gp)=⟨n2,l2,r2,⟨i3,m3,p2⟩,⟨i4,m4,q2⟩⟩)=(decide (l=l2) && (decide (r=r2) && ((decide (p=p2) && (decide (i=i3) && decide (m=m3))) && ((decide (q=q2) && (decide (i2=i4) && decide (m2=m4))) && decide (n=n2))))):=by
  rw [Bool.eq_iff_iff]
  simp only [decide_eq_true_eq,Bool.and_eq_true,Gp.mk.injEq,Prf.mk.injEq]
  constructor
  ·rintro⟨a1,a2,a3,⟨a4,a5,a6⟩,a7,a8,a9⟩
   exact⟨a2,a3,⟨a6,a4,a5⟩,⟨a9,a7,a8⟩,a1⟩
  ·rintro⟨a2,a3,⟨a6,a4,a5⟩,⟨a9,a7,a8⟩,a1⟩
   exact⟨a1,a2,a3,⟨a4,a5,a6⟩,a7,a8,a9⟩
 rw [e]
 generalize decide (l=l2)=b1
 generalize decide (r=r2)=b2
 generalize (decide (p=p2) && (decide (i=i3) && decide (m=m3)))=b3
 generalize (decide (q=q2) && (decide (i2=i4) && decide (m2=m4)))=b4
 cases b1
 focus
  repeat' first|refine Vz ?_|intro _
  refine reE ?_
  rfl
 cases b2
 focus
  repeat' first|refine Vz ?_|intro _
  refine reE ?_
  rfl
 cases b3
 focus
  repeat' first|refine Vz ?_|intro _
  refine reE ?_
  rfl
 cases b4
 focus
  repeat' first|refine Vz ?_|intro _
  refine reE ?_
  rfl
 repeat' first|refine Vz ?_|intro _
 refine reE ?_
 simp [outOf]⟩
end Go.Proofs.YtlmcongmglfaeaaGreatDoor

namespace Av
open Go Go.RowKit Tw
section
variable {P:Program} {N:Nat} {ops:Array Oper} {Q:Exit->Act->World->Prop} {rest:List Oper} {s:Base} {e:Env} {m:List Piece} {d:Nat} {ty:TypeId} {pos:String} {af:Array Edge}
end
end Av
namespace Go.Proofs.YtlmcongmglfaeaaGreatDoor
open Go Go.RowKit Tw Av
end Go.Proofs.YtlmcongmglfaeaaGreatDoor

namespace Go.Proofs.YtlmcongmglfaeaaGreatDoor
open Go Go.RowKit Tw Av
theorem atP_len {d:List Ent}(h:d.length<=10)(i:Int):(atP d i).p.length<=10:=by
 unfold atP
 dsimp only
 rw [pathH_len]
 exact Nat.le_trans (way_len _ _) (by simpa using h)


end Go.Proofs.YtlmcongmglfaeaaGreatDoor

namespace Av
open Go Go.RowKit Tw
section
variable {P:Program} {N:Nat} {s:Base} {e:Env} {m:List Piece}
end
end Av
namespace Go.Proofs.YtlmcongmglfaeaaGreatDoor
open Go Go.RowKit Tw Av
instance {k:Nat}:ImpT (.lit (.slice none 0 0)) (.sl k [] (some (.slice none 0 0))):=⟨ImpC.nilS⟩
end Go.Proofs.YtlmcongmglfaeaaGreatDoor

namespace Go.Proofs.YtlmcongmglfaeaaGreatDoor
open Go Go.RowKit Tw Av

def prfB (p:Prf):Bs:=tlvI 105 p.a++tlvI 109 p.m++tlvA 112 (p.p.map fun h=>h.l)
def sideT (l:List Ent):List Bs:=l.flatMap fun x=>[x.key,x.val]
def sidB (l:List Ent)(p:Prf):Bs:=tlvA 101 (sideT l)++tlvT 80 (prfB p)
def gapB (g:Gp):Bs:=tlvI 109 g.n++sidB g.l g.a++sidB g.r g.b
instance fnPBytes {i m:Int}{p:List Hsh}{xs:List AV}{id:Option Value}[hx:Hshs xs p]:Ans Tryz.prog GL 105 [.agg 3 [int i,int m,.sl 32 xs id]] (p.length<=1000000/\i<=9223372036854775807/\m<=9223372036854775807) (str (prfB ⟨i,m,p⟩)):=⟨fun hp=>by
 obtain⟨hn,hi,hmm⟩:=hp
 have h:=hx.out
 subst h
 have hm:(p.map hA).length=p.length:=llm _
 refine qE Tryz.func105 rfl Tryz.ntmps105 rfl (fun _ hs=>?_)
 repeat' first|refine Yz ?_|intro _
 rename_i g1
 refine ac_as 3 (Imp.nil (k:=1)) ?_
 refine ac_st (fun ok w h=>h.full 9 1 none 0) ?_
 refine ac_loop (α:=Nat × Value) (fun q=>[(1,ptr g1),(3,.sl 1 (((p.take q.1).map fun h=>h.l).map str) (some q.2)),(7,.sl 32 (p.map hA) id),(8,int p.length),(9,int q.1)]) (fun q=>[.tail 9 1 q.2,.var g1 50 (.agg 3 [int i,int m,.sl 32 (p.map hA) id])]) (fun q=>q.1<=p.length) (fun q=>p.length - q.1) (0,.slice none 0 0) ⟨rfl,rfl,rfl,by rw [<- hm];rfl,rfl,trivial⟩ slr (Nat.zero_le _) ?_
 rintro⟨j,v⟩ hj
 dsimp only at hj ⊢
 repeat' first|refine Yz ?_|intro _
 refine ac_cond (fun hlt=>?_) (fun hlt=>?_)
 ·have hil:j < p.length:=by omega
  have hml:((p.take j).map fun h=>h.l).length<=1000000:=by simp;omega
  repeat' first|refine Yz ?_|intro _
  refine al_append (fun v'=>?_)
  repeat' first|refine Yz ?_|intro _
  refine ae_round (j + 1,v') ⟨rfl,?_,rfl,rfl,rfl,trivial⟩ (List.Sublist.cons _ slr) hil (by dsimp only;omega)
  rw [List.take_succ_eq_append_getElem hil,List.map_append,List.map_append]
  rfl
 ·obtain rfl:j=p.length:=by omega
  rw [List.take_length]
  have hml:(p.map fun h=>h.l).length<=8000000:=by simp;omega
  repeat' first|refine Yz ?_|intro _
  refine reE ?_
  rfl⟩
instance fnRPBytes {i m:Int}{p:List Hsh}{xs:List AV}{id:Option Value}[hx:Hshs xs p]:Ans Tryz.prog GL 110 [.agg 3 [int i,int m,.sl 32 xs id]] (p.length<=1000000/\i<=9223372036854775807/\m<=9223372036854775807) (str (prfB ⟨i,m,p⟩)):=⟨fun hp=>by
 obtain⟨hn,hi,hmm⟩:=hp
 have h:=hx.out
 subst h
 have hm:(p.map hA).length=p.length:=llm _
 refine qE Tryz.func110 rfl Tryz.ntmps110 rfl (fun _ hs=>?_)
 repeat' first|refine Yz ?_|intro _
 rename_i g1
 refine ac_as 3 (Imp.nil (k:=1)) ?_
 refine ac_st (fun ok w h=>h.full 9 1 none 0) ?_
 refine ac_loop (α:=Nat × Value) (fun q=>[(1,ptr g1),(3,.sl 1 (((p.take q.1).map fun h=>h.l).map str) (some q.2)),(4,int q.1)]) (fun q=>[.tail 9 1 q.2,.var g1 50 (.agg 3 [int i,int m,.sl 32 (p.map hA) id])]) (fun q=>q.1<=p.length) (fun q=>p.length - q.1) (0,.slice none 0 0) ⟨rfl,rfl,rfl,trivial⟩ slr (Nat.zero_le _) ?_
 rintro⟨j,v⟩ hj
 dsimp only at hj ⊢
 repeat' first|refine Yz ?_|intro _
 refine ac_cond (fun hlt=>?_) (fun hlt=>?_)
 ·have hil:j < p.length:=by omega
  have hml:((p.take j).map fun h=>h.l).length<=1000000:=by simp;omega
  repeat' first|refine Yz ?_|intro _
  refine al_append (fun v'=>?_)
  repeat' first|refine Yz ?_|intro _
  refine ae_round (j + 1,v') ⟨rfl,?_,rfl,trivial⟩ slr hil (by dsimp only;omega)
  rw [List.take_succ_eq_append_getElem hil,List.map_append,List.map_append]
  rfl
 ·obtain rfl:j=p.length:=by omega
  rw [List.take_length]
  have hml:(p.map fun h=>h.l).length<=8000000:=by simp;omega
  repeat' first|refine Yz ?_|intro _
  refine reE ?_
  rfl⟩

theorem sideT_len (l:List Ent):(sideT l).length=l.length * 2:=by
 induction l with
 | nil=>rfl
 | cons x l ih=>simp [sideT] at ih ⊢;omega
theorem sideT_next {l:List Ent}{j:Nat}(h:j < l.length):sideT (l.take (j + 1))=sideT (l.take j)++[l[j].key,l[j].val]:=by
 unfold sideT
 rw [List.take_succ_eq_append_getElem h,List.flatMap_append]
 simp
instance {l:List Ent}{p:Prf}:LenLe (sidB l p) 33554438:=⟨by
 have h1:=tlvT_len 101 ((sideT l).flatMap (tlvT 101))
 have h2:=tlvT_len 80 (prfB p)
 have e:sidB l p=tlvT 101 ((sideT l).flatMap (tlvT 101))++tlvT 80 (prfB p):=rfl
 rw [e,lla]
 omega⟩
instance fnPSide {l:List Ent}{i m:Int}{p:List Hsh}{xs ys:List AV}{id id2:Option Value}[hx:Ents xs l][hy:Hshs ys p]:Ans Tryz.prog GL 182 [.sl 2 xs id,.agg 3 [int i,int m,.sl 32 ys id2]] (l.length<=1000000/\p.length<=1000000/\i<=9223372036854775807/\m<=9223372036854775807) (str (sidB l ⟨i,m,p⟩)):=⟨fun hp=>by
 obtain⟨hll,hn,hi,hmm⟩:=hp
 have h:=hx.out
 have h2:=hy.out
 subst h h2
 have hm:(l.map entA).length=l.length:=llm _
 refine qE Tryz.func182 rfl Tryz.ntmps182 rfl (fun _ hs=>?_)
 repeat' first|refine Yz ?_|intro _
 rename_i g1
 refine ac_as 5 (Imp.nil (k:=1)) ?_
 refine ac_st (fun ok w h=>h.full 9 1 none 0) ?_
 refine ac_loop (α:=Nat × Value) (fun q=>[(3,ptr g1),(5,.sl 1 ((sideT (l.take q.1)).map str) (some q.2)),(8,.sl 2 (l.map entA) id),(9,int l.length),(10,int q.1)]) (fun q=>[.tail 9 1 q.2,.var g1 50 (.agg 3 [int i,int m,.sl 32 (p.map hA) id2])]) (fun q=>q.1<=l.length) (fun q=>l.length - q.1) (0,.slice none 0 0) ⟨rfl,rfl,rfl,by rw [<- hm];rfl,rfl,trivial⟩ slr (Nat.zero_le _) ?_
 rintro⟨j,v⟩ hj
 dsimp only at hj ⊢
 repeat' first|refine Yz ?_|intro _
 refine ac_cond (fun hlt=>?_) (fun hlt=>?_)
 ·have hil:j < l.length:=by omega
  have hml:(sideT (l.take j)).length<=2000000:=by rw [sideT_len];simp;omega
  repeat' first|refine Yz ?_|intro _
  refine al_append (fun v'=>?_)
  repeat' first|refine Yz ?_|intro _
  refine ae_round (j + 1,v') ⟨rfl,?_,rfl,rfl,rfl,trivial⟩ (List.Sublist.cons _ slr) hil (by dsimp only;omega)
  rw [sideT_next hil,List.map_append]
  rfl
 ·obtain rfl:j=l.length:=by omega
  rw [List.take_length]
  have hml:(sideT l).length<=8000000:=by rw [sideT_len];omega
  repeat' first|refine Yz ?_|intro _
  refine reE ?_
  rfl⟩
instance fnRPSide {l:List Ent}{i m:Int}{p:List Hsh}{xs ys:List AV}{id id2:Option Value}[hx:Ents xs l][hy:Hshs ys p]:Ans Tryz.prog GL 184 [.sl 2 xs id,.agg 3 [int i,int m,.sl 32 ys id2]] (l.length<=1000000/\p.length<=1000000/\i<=9223372036854775807/\m<=9223372036854775807) (str (sidB l ⟨i,m,p⟩)):=⟨fun hp=>by
 obtain⟨hll,hn,hi,hmm⟩:=hp
 have h:=hx.out
 have h2:=hy.out
 subst h h2
 have hm:(l.map entA).length=l.length:=llm _
 refine qE Tryz.func184 rfl Tryz.ntmps184 rfl (fun _ hs=>?_)
 repeat' first|refine Yz ?_|intro _
 rename_i g1
 refine ac_as 5 (Imp.nil (k:=1)) ?_
 refine ac_st (fun ok w h=>h.full 9 1 none 0) ?_
 refine ac_loop (α:=Nat × Value) (fun q=>[(0,.sl 2 (l.map entA) id),(3,ptr g1),(5,.sl 1 ((sideT (l.take q.1)).map str) (some q.2)),(6,int q.1)]) (fun q=>[.tail 9 1 q.2,.var g1 50 (.agg 3 [int i,int m,.sl 32 (p.map hA) id2])]) (fun q=>q.1<=l.length) (fun q=>l.length - q.1) (0,.slice none 0 0) ⟨rfl,rfl,rfl,rfl,trivial⟩ slr (Nat.zero_le _) ?_
 rintro⟨j,v⟩ hj
 dsimp only at hj ⊢
 repeat' first|refine Yz ?_|intro _
 refine ac_cond (fun hlt=>?_) (fun hlt=>?_)
 ·have hil:j < l.length:=by omega
  have hml:(sideT (l.take j)).length<=2000000:=by rw [sideT_len];simp;omega
  repeat' first|refine Yz ?_|intro _
  refine al_append (fun v'=>?_)
  repeat' first|refine Yz ?_|intro _
  refine al_append (fun v''=>?_)
  repeat' first|refine Yz ?_|intro _
  refine ae_round (j + 1,v'') ⟨rfl,rfl,?_,rfl,trivial⟩ slr hil (by dsimp only;omega)
  rw [sideT_next hil,List.map_append]
  simp
  rfl
 ·obtain rfl:j=l.length:=by omega
  rw [List.take_length]
  have hml:(sideT l).length<=8000000:=by rw [sideT_len];omega
  repeat' first|refine Yz ?_|intro _
  refine reE ?_
  rfl⟩
structure GapW (g:Gp):Prop where
 l:g.l.length<=1000000/\g.a.p.length<=1000000/\g.a.a<=9223372036854775807/\g.a.m<=9223372036854775807
 r:g.r.length<=1000000/\g.b.p.length<=1000000/\g.b.a<=9223372036854775807/\g.b.m<=9223372036854775807
 n:g.n<=9223372036854775807
instance fnGBytes {n i m i2 m2:Int}{l r:List Ent}{p q:List Hsh}{xs ys zs ws:List AV}{d1 d2 d3 d4:Option Value}[hx:Ents xs l][hy:Ents ys r][hz:Hshs zs p][hw:Hshs ws q]:Ans Tryz.prog GL 106 [.agg 9 [int n,.sl 2 xs d1,.sl 2 ys d2,.agg 3 [int i,int m,.sl 32 zs d3],.agg 3 [int i2,int m2,.sl 32 ws d4]]] (GapW ⟨n,l,r,⟨i,m,p⟩,⟨i2,m2,q⟩⟩) (str (gapB ⟨n,l,r,⟨i,m,p⟩,⟨i2,m2,q⟩⟩)):=⟨fun hp=>by
 obtain⟨hl,hr,hn⟩:=hp
 dsimp only at hl hr hn
 refine qE Tryz.func106 rfl Tryz.ntmps106 rfl (fun _ hs=>?_)
 repeat' first|refine Yz ?_|intro _
 refine reE ?_
 rfl⟩
instance fnRGBytes {n i m i2 m2:Int}{l r:List Ent}{p q:List Hsh}{xs ys zs ws:List AV}{d1 d2 d3 d4:Option Value}[hx:Ents xs l][hy:Ents ys r][hz:Hshs zs p][hw:Hshs ws q]:Ans Tryz.prog GL 111 [.agg 9 [int n,.sl 2 xs d1,.sl 2 ys d2,.agg 3 [int i,int m,.sl 32 zs d3],.agg 3 [int i2,int m2,.sl 32 ws d4]]] (GapW ⟨n,l,r,⟨i,m,p⟩,⟨i2,m2,q⟩⟩) (str (gapB ⟨n,l,r,⟨i,m,p⟩,⟨i2,m2,q⟩⟩)):=⟨fun hp=>by
 obtain⟨hl,hr,hn⟩:=hp
 dsimp only at hl hr hn
 refine qE Tryz.func111 rfl Tryz.ntmps111 rfl (fun _ hs=>?_)
 repeat' first|refine Yz ?_|intro _
 refine reE ?_
 rfl⟩
end Go.Proofs.YtlmcongmglfaeaaGreatDoor
