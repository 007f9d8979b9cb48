/- seals, walked -/
import Derived.Test.YtlkkekpcofjbeaaGreatDoorA16
import Derived.Test.YtlkkekpcofjbeaaGreatDoorA19
import Derived.Test.YtlkkekpcofjbeaaGreatDoorA22
import Derived.Test.YtlkkekpcofjbeaaGreatDoorA23
import Derived.Test.YtlkkekpcofjbeaaGreatDoorA24
import Derived.Test.YtlkkekpcofjbeaaGreatDoorA25
import Derived.Test.YtlkkekpcofjbeaaGreatDoorA27
namespace Go.Proofs.YtlkkekpcofjbeaaGreatDoor
open Go Go.RowKit Tw Av
theorem pathH_bad {l:List Hsh}{i:Int}(h:i < 0\/(l.length:Int)<=i\/l.length < 2):pathH l i=[]:=by
 unfold pathH wayOf
 by_cases hc:i < 0\/(l.length:Int)<=i\/2000 < (l.length:Int)
 ·rw [if_pos hc]
  rfl
 ·rw [if_neg hc]
  have h1:l.length=1:=by omega
  rw [show (l.length:Int).toNat=1 by omega,turns_one]
  rfl
theorem pathH_step {l:List Hsh}{i k:Nat}(h:i < l.length)(h1:1 < l.length)(h2:l.length<=2000)(hk:(l.length + 1) / 2=k):pathH l i=if i < k then pathH (l.take k) i++[treeH (l.drop k)] else pathH (l.drop k) ((i - k:Nat):Int)++[treeH (l.take k)]:=by
 have e1:pathH l i=(pathDown (turns l.length i) l).reverse:=by rw [pathH,way_eq h h2]
 rw [e1,way_row h h1,hk,pathDown]
 by_cases hik:i < k
 ·have hl:(l.take k).length=k:=by simp;omega
  have e2:pathH (l.take k) i=(pathDown (turns k i) (l.take k)).reverse:=by rw [pathH,hl,way_eq hik (by omega)]
  rw [if_pos hik,e2]
  simp [hik]
 ·have hl:(l.drop k).length=l.length - k:=by simp
  have e2:pathH (l.drop k) ((i - k:Nat):Int)=(pathDown (turns (l.length - k) (i - k)) (l.drop k)).reverse:=by rw [pathH,hl,way_eq (by omega) (by omega)]
  rw [if_neg hik,e2]
  simp [hik]
theorem rpath_ans (N:Nat):N<=2000->∀ {d:List Ent} {i:Int} {xs:List AV} {id:Option Value} [Ents xs d],Ans Tryz.prog GL 151 [.sl 2 xs id,int i] (d.length<=N) (.sl 32 ((pathH (d.map leafH) i).map hA) none):=by
 induction N with
 | zero=>
  intro _ d i xs id hx
  refine⟨fun hl=>?_⟩
  have h:=hx.out
  subst h
  obtain rfl:d=[]:=List.eq_nil_of_length_eq_zero (by omega)
  rw [pathH_bad (.inr (.inr (by simp)))]
  refine qE Tryz.func151 rfl Tryz.ntmps151 rfl (fun _ hs=>?_)
  repeat' first|refine Wz ?_|intro _
  refine gu1 (fun h1=>?_) (fun h1=>?_)
  ·repeat' first|refine Wz ?_|intro _
   refine ae_as 4 (Imp.nilN (k:=32)) ?_
   refine reE ?_
   rfl
  ·repeat' first|refine Wz ?_|intro _
   refine gu1 (fun h2=>?_) (fun h2=>?_)
   ·repeat' first|refine Wz ?_|intro _
    refine ae_as 4 (Imp.nilN (k:=32)) ?_
    refine reE ?_
    rfl
   ·exfalso
    simp at h2
    omega
 | succ N ih=>
  intro hN d i xs id hx
  have ih:=@ih (by omega)
  refine⟨fun hl=>?_⟩
  have h:=hx.out
  subst h
  have hm:(d.map entA).length=d.length:=llm _
  have hml:(d.map leafH).length=d.length:=llm _
  refine qE Tryz.func151 rfl Tryz.ntmps151 rfl (fun _ hs=>?_)
  repeat' first|refine Wz ?_|intro _
  refine gu1 (fun h1=>?_) (fun h1=>?_)
  ·repeat' first|refine Wz ?_|intro _
   refine ae_as 4 (Imp.nilN (k:=32)) ?_
   refine reE ?_
   rw [pathH_bad (.inl h1)]
   rfl
  ·repeat' first|refine Wz ?_|intro _
   refine gu1 (fun h2=>?_) (fun h2=>?_)
   ·repeat' first|refine Wz ?_|intro _
    refine ae_as 4 (Imp.nilN (k:=32)) ?_
    refine reE ?_
    rw [pathH_bad (.inr (.inl (by omega)))]
    rfl
   ·repeat' first|refine Wz ?_|intro _
    refine ac_cond (fun h3=>?_) (fun h3=>?_)
    ·repeat' first|refine Wz ?_|intro _
     refine ae_as 4 (Imp.nilN (k:=32)) ?_
     refine reE ?_
     rw [pathH_bad (.inr (.inr (by omega)))]
     rfl
    ·obtain⟨I,rfl⟩:∃ I:Nat,i=I:=⟨i.toNat,by omega⟩
     have hst:=pathH_step (l:=d.map leafH) (i:=I) (by omega) (by omega) (by omega) rfl
     rw [hml] at hst
     rw [hst]
     have hk0:(((d.map entA).length:Int) + 1) / 2=(((d.length + 1) / 2:Nat):Int):=by omega
     repeat' first|refine Wz ?_|intro _
     rw [hk0]
     generalize hk:(d.length + 1) / 2=k at *
     have hwl:∀ (l:List Hsh) (i:Int),(pathH l i).length<=l.length:=fun l i=>by rw [pathH_len];exact way_len _ _
     have hw1:=hwl ((d.map leafH).take k) I
     have hw2:=hwl ((d.map leafH).drop k) ((I - k:Nat):Int)
     rw [List.length_take] at hw1
     rw [List.length_drop] at hw2
     have hmt:(((d.map entA).take k).drop 0)=(d.take k).map entA:=by rw [List.drop_zero,List.map_take]
     have hmd:(((d.map entA).take d.length).drop k)=(d.drop k).map entA:=by rw [List.take_of_length_le (by omega),List.map_drop]
     refine ac_as 6 (Imp.nil (k:=32)) ?_
     refine ac_st (fun ok w h=>h.full 40 32 none 0) ?_
     repeat' first|refine Wz ?_|intro _
     refine ac_cond (fun hlt=>?_) (fun hlt=>?_)
     ·have hik:I < k:=by omega
      rw [if_pos hik]
      repeat' first|refine Wz ?_|intro _
      refine al_sliceD 0 k ?_
      rw [hmt]
      refine al_move ?_
      refine al_callE (hp:=by simp;omega) ?_
      rw [List.map_take]
      refine al_append (fun v=>?_)
      repeat' first|refine Wz ?_|intro _
      refine al_sliceD k d.length ?_
      rw [hmd]
      refine al_callE (hp:=by simp;omega) ?_
      repeat' first|refine Wz ?_|intro _
      refine al_append (fun v'=>?_)
      repeat' first|refine Wz ?_|intro _
      refine ae_as 4 Imp.sl ?_
      refine reE ?_
      simp [outOf]
     ·have hik:¬ I < k:=by omega
      rw [if_neg hik]
      repeat' first|refine Wz ?_|intro _
      refine al_sliceD k d.length ?_
      rw [hmd]
      repeat' first|refine Wz ?_|intro _
      rw [show (I:Int) - (k:Int)=((I - k:Nat):Int) by omega,List.map_drop]
      refine al_append (fun v=>?_)
      repeat' first|refine Wz ?_|intro _
      refine al_sliceD 0 k ?_
      rw [hmt]
      refine al_callE (hp:=by simp;omega) ?_
      repeat' first|refine Wz ?_|intro _
      refine al_append (fun v'=>?_)
      repeat' first|refine Wz ?_|intro _
      refine ae_as 4 Imp.sl ?_
      refine reE ?_
      simp [outOf]



instance fnRPath {d:List Ent}{i:Int}{xs:List AV}{id:Option Value}[Ents xs d]:Ans Tryz.prog GL 151 [.sl 2 xs id,int i] (d.length<=2000) (.sl 32 ((pathH (d.map leafH) i).map hA) none):=rpath_ans 2000 (Nat.le_refl _)

theorem foldH_path {l:List Hsh}{i:Nat}(h:i < l.length)(h2:l.length<=2000):foldH l.length i l[i] (pathH l i)=some (topH l.length (treeH l)):=by
 have hw:=way_eq h h2
 unfold foldH
 rw [if_neg (by rw [pathH_len];omega),pathH,hw,up_path l.length l i l[i] rfl (List.getElem?_eq_getElem h)]

structure Prf where
 a:Int
 m:Int
 p:List Hsh
deriving DecidableEq
structure Gp where
 n:Int
 l:List Ent
 r:List Ent
 a:Prf
 b:Prf
deriving DecidableEq
abbrev prfA (x:Prf):AV:=.agg 3 [int x.a,int x.m,.sl 32 (x.p.map hA) none]
abbrev gpA (x:Gp):AV:=.agg 9 [int x.n,.sl 2 (x.l.map entA) none,.sl 2 (x.r.map entA) none,prfA x.a,prfA x.b]
def zeroP:Prf:=⟨0,0,[]⟩
def zeroG:Gp:=⟨0,[],[],zeroP,zeroP⟩
def atP (d:List Ent)(i:Int):Prf:=⟨i,d.length,pathH (d.map leafH) i⟩
def memP (d:List Ent)(i:Nat)(is:Bool):Prf:=if is=true then atP d i else zeroP
def absG (d:List Ent)(i:Nat)(is:Bool):Gp:=if is=true then zeroG else
 ⟨d.length,if 0 < i then [d.getD (i - 1) ⟨[],[]⟩] else [],if i < d.length then [d.getD i ⟨[],[]⟩] else [],if 0 < i then atP d ((i - 1:Nat):Int) else zeroP,if i < d.length then atP d i else zeroP⟩
def holdsB (root:Hsh)(x:Ent)(p:Prf):Bool:=(foldH p.m p.a (leafH x) p.p).isSome && decide ((foldH p.m p.a (leafH x) p.p).getD zeroH=root)
def sideB (root:Hsh)(n:Int)(bes:Bs->Bool):List Ent->Prf->Bool
 | [],_=>true
 | [x],p=>bes x.key && (decide (p.m=n) && holdsB root x p)
 | _,_=>false
def endB (root:Hsh)(g:Gp):Bool:=match g.l,g.r with
 | [],[]=>decide (g.n=0) && decide (root=topH 0 (treeH []))
 | [],_=>decide (g.b.a=0)
 | _,[]=>decide (g.a.a=g.n - 1)
 | _,_=>decide (g.b.a=g.a.a + 1)
def missB (root:Hsh)(k:Bs)(g:Gp):Bool:=sideB root g.n (fun a=>blt a k) g.l g.a && (sideB root g.n (fun a=>blt k a) g.r g.b && endB root g)
def fndAt (l:List Ent)(k:Bs):Nat:=l.findIdx fun x=>!blt x.key k
def fndIs (l:List Ent)(k:Bs):Bool:=decide (fndAt l k < l.length/\(l.getD (fndAt l k) ⟨[],[]⟩).key=k)
theorem fndAt_le (l:List Ent)(k:Bs):fndAt l k<=l.length:=List.findIdx_le_length
theorem fndAt_step {l:List Ent}{k:Bs}{i:Nat}(hi:i < l.length)(hb:∀ j,(hj:j < i)->blt (l[j]'(by omega)).key k=true)(hh:blt l[i].key k=false):fndAt l k=i:=by
 unfold fndAt
 rw [List.findIdx_eq hi]
 exact⟨by simpa using hh,fun j hj=>by simpa using hb j hj⟩
theorem fndAt_none {l:List Ent}{k:Bs}(hb:∀ j,(hj:j < l.length)->blt l[j].key k=true):fndAt l k=l.length:=by
 unfold fndAt
 rw [List.findIdx_eq_length]
 intro x hx
 obtain⟨j,hj,rfl⟩:=List.getElem_of_mem hx
 simpa using hb j hj
theorem getD_at {α:Type}{l:List α}{i:Nat}{d:α}(h:i < l.length):l.getD i d=l[i]:=by simp [List.getD,h]
instance fnR8Find {l:List Ent}{k:Bs}{xs:List AV}{id:Option Value}[hx:Ents xs l]:Ans Tryz.prog GL 150 [.sl 2 xs id,str k] True (.tup [int (fndAt l k),boo (fndIs l k)]):=⟨fun _=>by
 have h:=hx.out
 subst h
 have hm:(l.map entA).length=l.length:=llm _
 refine qE Tryz.func150 rfl Tryz.ntmps150 rfl (fun _ hs=>?_)
 refine ac_bnd 0 (fun hb=>?_)
 have hb:=maxLen_le hb
 repeat' first|refine Vz ?_|intro _
 refine ac_loop (α:=Nat) (fun i=>[(0,.sl 2 (l.map entA) id),(1,str k),(6,int i)]) (fun _=>[]) (fun i=>i<=l.length/\∀ j,(hj:j < l.length)->j < i->blt l[j].key k=true) (fun i=>l.length - i) 0 ⟨rfl,rfl,rfl,trivial⟩ slr ⟨Nat.zero_le _,fun _ _ h=>absurd h (by omega)⟩ ?_
 rintro i ⟨g1,g2⟩
 repeat' first|refine Vz ?_|intro _
 refine ac_cond (fun hlt=>?_) (fun hlt=>?_)
 ·have hil:i < l.length:=by omega
  repeat' first|refine Vz ?_|intro _
  refine ac_condB (fun hc=>?_) (fun hc=>?_)
  ·repeat' (first|refine W ?_|refine op3 ?_|refine ob5 ?_|refine opE ?_|refine obE ?_|refine ob2 (fun _=>?_)|intro _)
   refine reE ?_
   have e:=fndAt_step hil (fun j hj=>g2 j (by omega) hj) (by simpa using hc)
   rw [fndIs,e,getD_at hil]
   simp [outOf,hil]
  ·repeat' first|refine Vz ?_|intro _
   refine ae_round (i + 1) ⟨rfl,rfl,rfl,trivial⟩ slr ⟨hil,fun j hj h=>?_⟩ (by omega)
   rcases Nat.lt_or_ge j i with h2|h2
   ·exact g2 j hj h2
   ·obtain rfl:j=i:=by omega
    simpa using hc
 ·obtain rfl:i=l.length:=by omega
  repeat' first|refine Vz ?_|intro _
  refine reE ?_
  have e:=fndAt_none (fun j hj=>g2 j hj hj)
  rw [fndIs,e]
  simp [outOf]⟩
attribute [irreducible] fndIs
theorem imp_zeroP:Imp (.tup [.agg 3 [int 0,int 0,.lit (.slice none 0 0)],boo false]) (.tup [prfA zeroP,boo false]):=(inferInstance:ImpR _ (.tup [.agg 3 [int 0,int 0,.sl 32 [] none],boo false])).imp
instance fnRMember {d:List Ent}{k:Bs}{xs:List AV}{id:Option Value}[hx:Ents xs d]:Ans Tryz.prog GL 88 [.sl 2 xs id,str k] (d.length<=2000) (.tup [prfA (memP d (fndAt d k) (fndIs d k)),boo (fndIs d k)]):=⟨fun hl=>by
 have h:=hx.out
 subst h
 refine qE Tryz.func88 rfl Tryz.ntmps88 rfl (fun _ hs=>?_)
 repeat' first|refine Vz ?_|intro _
 cases hb:fndIs d k
 ·repeat' first|refine Vz ?_|intro _
  refine reI ?_
  exact imp_zeroP
 ·repeat' first|refine Vz ?_|intro _
  refine reE ?_
  simp [outOf,memP,atP]⟩
instance fnPHolds {root:Hsh}{a b:Bs}{i m:Int}{p:List Hsh}{xs:List AV}{id:Option Value}[hx:Hshs xs p]:Ans Tryz.prog GL 246 [hA root,.agg 2 [str a,str b],.agg 3 [int i,int m,.sl 32 xs id]] (m<=9223372036854775807) (boo (holdsB root ⟨a,b⟩ ⟨i,m,p⟩)):=⟨fun hl=>by
 have h:=hx.out
 subst h
 refine qE Tryz.func246 rfl Tryz.ntmps246 rfl (fun _ hs=>?_)
 repeat' first|refine Vz ?_|intro _
 rw [holdsB]
 generalize foldH m i (leafH ⟨a,b⟩) p=o
 cases o
 ·repeat' (first|refine W ?_|refine op3 ?_|refine ob5 ?_|refine opE ?_|refine obE ?_|refine ob2 (fun _=>?_)|intro _)
  refine reE ?_
  rfl
 ·repeat' (first|refine W ?_|refine op3 ?_|refine ob5 ?_|refine opE ?_|refine obE ?_|refine ob2 (fun _=>?_)|intro _)
  refine reE ?_
  rfl⟩


theorem fnd_at {l:List Ent}{i:Nat}(h:Srt l)(hi:i < l.length):fndAt l l[i].key=i/\fndIs l l[i].key=true:=by
 have h1:fndAt l l[i].key=i:=by
  refine fndAt_step hi (fun j hj=>?_) (blt_irrefl _)
  exact List.pairwise_iff_getElem.1 h j i (by omega) hi hj
 refine⟨h1,?_⟩
 rw [fndIs,h1,getD_at hi]
 simp [hi]
theorem memP_at {l:List Ent}{i:Nat}(h:Srt l)(hi:i < l.length):memP l (fndAt l l[i].key) (fndIs l l[i].key)=atP l i:=by
 obtain⟨h1,h2⟩:=fnd_at h hi
 rw [h1,h2]
 rfl
instance fnRAbsent {d:List Ent}{k:Bs}{xs:List AV}{id:Option Value}[hx:Ents xs d]:Ans Tryz.prog GL 90 [.sl 2 xs id,str k] (d.length<=2000/\Srt d) (.tup [gpA (absG d (fndAt d k) (fndIs d k)),boo (!fndIs d k)]):=⟨fun hpre=>by
 obtain⟨hl,hsr⟩:=hpre
 have h:=hx.out
 subst h
 have hm:(d.map entA).length=d.length:=llm _
 refine qE Tryz.func90 rfl Tryz.ntmps90 rfl (fun _ hs=>?_)
 repeat' first|refine Vz ?_|intro _
 cases hb:fndIs d k
 focus
  repeat' first|refine Vz ?_|intro _
  have hle:=fndAt_le d k
  generalize fndAt d k=n at *
  have e2:∀ n:Nat,(((n + 1:Nat):Int) - 1)=n:=fun n=>by omega
  by_cases h1:n < d.length
  all_goals
   rcases n with _|n
   focus
    repeat' first|refine Zz ?_|intro _
   rotate_left
   focus
    repeat' first|refine Zz ?_|intro _
    rw [e2]
    repeat' first|refine Zz ?_|intro _
    rw [e2]
    repeat' first|refine Zz ?_|intro _
    rw [memP_at hsr (show n < d.length by omega)]
   all_goals
    try rw [memP_at hsr h1]
    refine reI ?_
    simp only [outOf,hm,absG,atP,gpA,prfA,zeroP,Nat.lt_irrefl,Nat.zero_lt_succ,Nat.add_sub_cancel,h1,if_true,if_false,List.map_cons,List.map_nil,Bool.not_false,Bool.false_eq_true]
    try rw [getD_at (show n < d.length by omega)]
    try rw [getD_at h1]
    exact ImpR.imp
 focus
  repeat' first|refine Vz ?_|intro _
  refine reI ?_
  simp only [outOf,absG,gpA,prfA,if_true,zeroG,zeroP,List.map_nil,Bool.not_true]
  exact ImpR.imp⟩


end Go.Proofs.YtlkkekpcofjbeaaGreatDoor

namespace Av
open Go Go.RowKit Tw
section
variable {P:Program} {N:Nat} {ops:Array Oper} {Q:Exit->Act->World->Prop} {rest:List Oper} {s:Base} {e:Env} {m:List Piece} {d:Nat} {ty:TypeId} {pos:String} {af:Array Edge}
end
end Av
namespace Go.Proofs.YtlkkekpcofjbeaaGreatDoor
open Go Go.RowKit Tw Av
end Go.Proofs.YtlkkekpcofjbeaaGreatDoor

namespace Go.Proofs.YtlkkekpcofjbeaaGreatDoor
open Go Go.RowKit Tw Av

theorem holds_at {l:List Ent}{i:Nat}(hi:i < l.length)(hl:l.length<=2000):holdsB (topH l.length (treeH (l.map leafH))) l[i] (atP l i)=true:=by
 have h:=foldH_path (l:=l.map leafH) (i:=i) (by simpa using hi) (by simpa using hl)
 simp only [List.length_map,List.getElem_map] at h
 unfold holdsB atP
 dsimp only
 rw [h]
 simp

end Go.Proofs.YtlkkekpcofjbeaaGreatDoor

namespace Av
open Go Go.RowKit Tw
section
variable {P:Program} {N:Nat} {s:Base} {e:Env} {m:List Piece}
end
end Av
namespace Go.Proofs.YtlkkekpcofjbeaaGreatDoor
open Go Go.RowKit Tw Av
instance {k:Nat}:ImpT (.lit (.slice none 0 0)) (.sl k [] (some (.slice none 0 0))):=⟨ImpC.nilS⟩
end Go.Proofs.YtlkkekpcofjbeaaGreatDoor

namespace Go.Proofs.YtlkkekpcofjbeaaGreatDoor
open Go Go.RowKit Tw Av





class RgSl (a:AV)(l:List Ent):Prop where
 imp:ImpT a (.sl 2 (l.map entA) none)
instance : RgSl (.lit (.slice none 0 0)) [] := ⟨(inferInstance : ImpT _ (.sl 2 [] none))⟩
instance {k v:Bs}:RgSl (.sl 2 [.agg 2 [str k,str v]] none) [⟨k,v⟩]:=⟨(inferInstance:ImpT _ (.sl 2 [.agg 2 [str k,str v]] none))⟩



def hshA (x:H8)(buf:Bs)(n:Nat):AV:=.agg 74 ((hsh x buf n).map fun v=>.lit (id v))
theorem hsh_len74 {x:H8}{buf:Bs}{n:Nat}(hb:buf.length=64):(hsh x buf n).length=74:=hsw_len _ _ _ rfl hb
theorem hshA_rc {ok:Ok}{w:World}{x:H8}{buf:Bs}{n:Nat}(hb:buf.length=64):RC ok w (hshA x buf n) (hsh x buf n):=by
 unfold hshA
 rw [RC]
 refine⟨hsh_len74 hb,?_⟩
 have h1:∀ v ∈ hsh x buf n,v.oneCell'=true:=fun v hv=>hsh_good x.words buf n v (by rw [(hsh_units _ _ _).fl];exact hv)
 generalize hsh x buf n=l at h1
 induction l with
 | nil=>rw [List.map_nil,RCs]
 | cons a l ih=>
  rw [List.map_cons,RCs]
  exact⟨[a],l,rfl,by rw [RC];exact⟨rfl,h1 a (by simp)⟩,ih fun v hv=>h1 v (by simp [hv])⟩
theorem hshA_cs {ok:Ok}{w:World}{x:H8}{buf:Bs}{n:Nat}{cs:List Value}(h:RC ok w (hshA x buf n) cs):cs=fl (hsh x buf n):=by
 unfold hshA at h
 rw [RC] at h
 rw [(hsh_units _ _ _).fl,rcs_lits h.2]
 simp
theorem hnew:Av.Spec Tryz.prog GL 243 [] [] fun u m'=>∃ g,u=ptr g/\m'=[.var g 305 (hshA h0 (zeros 64) 0)]:=
 spec_new (vs:=hsh h0 (zeros 64) 0) (fun ok w=>by rw [(hsh_units _ _ _).fl];exact hshA_rc rfl) fun ok w cargs hg hv=>by
  obtain rfl:=(show cargs=[] from hv)
  exact new_spec w (glo_of hg)
def Hashed (g:Nat)(M:Bs)(m:List Av.Piece):Prop:=∃ x buf,HS M x buf/\m=[.var g 305 (hshA x buf M.length)]
theorem glob_ne {ok:Ok}{w:World}{g:Nat}(h:Glob GL ok w)(hn:∀ j,¬ ok g j):g≠1/\g≠2:=by
 refine⟨?_,?_⟩
 ·rintro rfl
  obtain⟨cs,h1,h2⟩:=h _ (by unfold GL;exact List.mem_cons_self)
  rw [RC] at h2
  have h3:=rcs_lits h2.2
  subst h3
  exact hn _ (h1 0 _ (by simp [H8.words];rfl)).2
 ·rintro rfl
  obtain⟨cs,h1,h2⟩:=h (2,_) (by unfold GL;exact List.mem_cons_of_mem _ List.mem_cons_self)
  rw [RC] at h2
  have h3:=rcs_lits h2.2
  subst h3
  exact hn _ (h1 0 _ (by simp [kTab];rfl)).2
theorem hwrite {g:Nat}{M s:Bs}{x:H8}{buf:Bs}(hH:HS M x buf)(hl:M.length + s.length<=4611686018427387904):Av.Spec Tryz.prog GL 244 [ptr g,str s] [.var g 305 (hshA x buf M.length)] fun u m'=>u=.tup []/\Hashed g (M++s) m':=by
 refine (spec_mod (R:=fun v=>∃ x' buf',HS (M++s) x' buf'/\v=hshA x' buf' (M++s).length) (fun ok w cs h=>hshA_cs h) fun ok w cargs hg hn hv hb=>?_).mono fun u m' hh=>?_
 ·obtain⟨u1,us,rfl,h1,rfl⟩:=hv
  rw [RV0.lit h1]
  obtain⟨n1,n2⟩:=glob_ne hg hn
  refine (write_spec w g M x buf s (glo_of hg) n1 n2 hb hH hl).mono fun v w' hh=>?_
  obtain⟨e,x',buf',h2,h3⟩:=hh
  exact⟨e,_,_,⟨x',buf',h2,rfl⟩,h3,fun ok w=>by rw [(hsh_units _ _ _).fl];exact hshA_rc h2.len⟩
 ·obtain⟨e,v',⟨x',buf',h2,rfl⟩,e2⟩:=hh
  exact⟨e,x',buf',h2,e2⟩
theorem hsum {g:Nat}{M:Bs}{x:H8}{buf:Bs}(hH:HS M x buf)(hl:M.length<=1152921504606846976):Av.Spec Tryz.prog GL 245 [ptr g] [.var g 305 (hshA x buf M.length)] fun u m'=>u=hA (shaH M)/\m'=[.var g 305 (hshA x buf M.length)]:=
 spec_get (fun ok w cs h=>hshA_cs h) fun ok w cargs hg hv hb=>by
  obtain rfl:=(show cargs=[] from hv)
  exact (sum_spec w g M x buf (glo_of hg) hb hH hl).mono fun v w' hh=>⟨fun ok w=>by rw [hh.1];exact RV_hA _,hh.2⟩

theorem keyB_len (k:Bs):(keyB k).length=64:=by rw [keyB,copyB_len];simp [zeros]
theorem ofH1 (a:Bs):ofH [a]=shaH a:=by simp [ofH]
theorem ofH2 (a b:Bs):ofH [a,b]=shaH (a++b):=by simp [ofH]
abbrev kbA (l:Bs):AV:=.agg 64 (l.map u8A)
instance fnSBlock {k:Bs}:Ans Tryz.prog GL 291 [str k] (k.length<=1000000) (kbA (keyB k)):=⟨fun hk=>by
 refine qE Tryz.func291 rfl Tryz.ntmps291 rfl (fun _ hs=>?_)
 repeat' first|refine Vz ?_|intro _
 refine ac_cond (fun h1=>?_) (fun h1=>?_)
 ·have:LenLe k 1000000:=⟨hk⟩
  repeat' first|refine Vz ?_|intro _
  rw [ofH1]
  refine al_copyS (l:=zeros 64) (a:=(shaH k).l) rfl ?_
  repeat' first|refine Vz ?_|intro _
  refine reE ?_
  rw [keyB,if_pos (by omega)]
  rfl
 ·repeat' first|refine Vz ?_|intro _
  refine al_copyS (l:=zeros 64) (a:=k) rfl ?_
  repeat' first|refine Vz ?_|intro _
  refine reE ?_
  rw [keyB,if_neg (by omega)]
  rfl⟩
theorem put1 {g:Nat}{a b:UInt8}{T:TypeId}:Av.Spec Tryz.prog GL 306 [u8A a,ptr g] [.var g T (u8A b)] fun u m=>u=u8A (a ^^^ b)/\m=[.var g T (u8A b)]:=by
 refine qE Tryz.func306 rfl Tryz.ntmps306 rfl (fun _ hs=>?_)
 repeat' first|refine Vz ?_|intro _
 exact reK [.var g T (u8A b)] ⟨rfl,rfl⟩ slr
theorem xor_next {l:Bs}{b:UInt8}{i:Nat}(h:i < l.length):(xorB b (l.take i)++l.drop i).set i (l[i] ^^^ b)=xorB b (l.take (i + 1))++l.drop (i + 1):=by
 have h1:(xorB b (l.take i)).length=i:=by simp [xorB];omega
 rw [List.set_append,if_neg (by omega),h1,Nat.sub_self,List.drop_eq_getElem_cons h,List.set_cons_zero,List.take_succ_eq_append_getElem h,xorB,xorB,List.map_append,laa]
 rfl
theorem sput {l:Bs}(hl:l.length=64)(b:UInt8)(B:Int)(hB:B=b.toNat):SpecE Tryz.prog GL 292 [kbA l,.lit (.int .u8 B)] (str (xorB b l)):=by
 subst hB
 refine qE Tryz.func292 rfl Tryz.ntmps292 rfl (fun _ hs=>?_)
 repeat' first|refine Vz ?_|intro _
 rename_i g2 g3
 refine al_makeFunc (vs:=[.pointer (some ⟨g3,0,none⟩)]) ?_
 repeat' first|refine Vz ?_|intro _
 refine ac_loop (α:=Nat) (fun i=>[(2,ptr g2),(5,fnv 306 [.pointer (some ⟨g3,0,none⟩)]),(9,kbA l),(10,int i)])
  (fun i=>[.var g3 5 (u8A b),.var g2 303 (kbA (xorB b (l.take i)++l.drop i))]) (fun i=>i<=64) (fun i=>64 - i) 0 ⟨rfl,rfl,rfl,rfl,trivial⟩ ?_ (Nat.zero_le _) ?_
 ·exact sbl
 intro i hi
 have hlen:(xorB b (l.take i)++l.drop i).length=64:=by simp [xorB];omega
 repeat' first|refine Vz ?_|intro _
 refine ac_cond (fun hlt=>?_) (fun hlt=>?_)
 ·have hil:i < l.length:=by omega
  repeat' first|refine Vz ?_|intro _
  refine al_index (ps:=l.map u8A) (u:=u8A l[i]) i ?_ rfl (by omega) (by simp [hil]) (by intro p hp;obtain⟨c,_,rfl⟩:=List.mem_map.1 hp;rfl) rfl
  repeat' first|refine Vz ?_|intro _
  refine al_callV (args:=[u8A l[i]]) (cs:=[.pointer (some ⟨g3,0,none⟩)]) [.var g3 5 (u8A b)] _ (by rw [hs];exact put1) (fun u m1 hh=>?_) lpr
  obtain⟨rfl,rfl⟩:=hh
  repeat' first|refine Vz ?_|intro _
  refine al_idxA i ?_
  refine al_storeE (j:=i) (ps:=(xorB b (l.take i)++l.drop i).map u8A) (by simp only [List.length_map];omega) ?_
  repeat' first|refine Vz ?_|intro _
  rw [show ((xorB b (l.take i)++l.drop i).map u8A).set i (u8A (l[i] ^^^ b))=((xorB b (l.take i)++l.drop i).set i (l[i] ^^^ b)).map u8A by rw [List.map_set],xor_next hil]
  refine ae_round (i + 1) ⟨rfl,rfl,rfl,rfl,trivial⟩ ?_ (by omega) (by omega)
  exact sbl
 ·obtain rfl:i=64:=by omega
  rw [List.take_of_length_le (by omega),List.drop_of_length_le (by omega),List.append_nil]
  repeat' first|refine Vz ?_|intro _
  refine reE ?_
  rfl
theorem ImpC.one {n:Nat}{ps:List AV}:ImpC (.agg n [.agg n ps]) (.agg n ps):=fun ok w cs h=>by
 rw [RC] at h
 obtain⟨h1,h2⟩:=h
 rw [RCs] at h2
 obtain⟨c1,c2,rfl,h3,h4⟩:=h2
 rw [RCs] at h4
 subst h4
 rwa [List.append_nil]
theorem snew {k:Bs}(hk:k.length<=1000000):Av.Spec Tryz.prog GL 268 [str k] [] fun u m=>∃ g,u=ptr g/\m=[.var g 317 (kbA (keyB k))]:=by
 refine qE Tryz.func268 rfl Tryz.ntmps268 rfl (fun _ hs=>?_)
 repeat' first|refine Vz ?_|intro _
 rename_i g
 refine ae_asV (g:=g) (v':=kbA (keyB k)) ImpC.one ?_
 exact reK [.var g 317 (kbA (keyB k))] ⟨g,rfl,rfl⟩ slr
theorem xorB_len (b:UInt8)(l:Bs):(xorB b l).length=l.length:=llm _
theorem flat_next {l:List Bs}{i:Nat}(h:i < l.length):(l.take (i + 1)).flatten=(l.take i).flatten++l[i]:=by
 rw [List.take_succ_eq_append_getElem h,List.flatten_append]
 simp
theorem flat_le {l:List Bs}(i:Nat):(l.take i).flatten.length<=l.flatten.length:=by
 have h:=congrArg (fun q=>(List.flatten q).length) (List.take_append_drop i l)
 simp only [List.flatten_append,List.length_append] at h
 omega
theorem sseal {g:Nat}{kb:Bs}{l:List Bs}{id:Option Value}(hk:kb.length=64)(hl:l.flatten.length<=1000000000000)(hn:l.length<=1000000000000):Av.Spec Tryz.prog GL 269 [ptr g,.sl 1 (l.map str) id] [.var g 317 (kbA kb)] fun u m=>u=hA (shaH (xorB 92 kb++(shaH (xorB 54 kb++l.flatten)).l))/\m=[]:=by
 have hlm:(l.map str).length=l.length:=llm _
 refine qE Tryz.func269 rfl Tryz.ntmps269 rfl (fun _ hs=>?_)
 repeat' first|refine Vz ?_|intro _
 refine al_callK [] _ (by rw [hs];exact hnew) (fun u m1 hh=>?_) lpr
 obtain⟨gh,rfl,rfl⟩:=hh
 repeat' first|refine Vz ?_|intro _
 refine al_callK [] _ (by rw [hs];exact sput hk 54 54 rfl) (fun u m1 hh=>?_) lpr
 obtain⟨rfl,rfl⟩:=hh
 refine al_callK [.var gh 305 (hshA h0 (zeros 64) 0)] _ (by rw [hs];exact hwrite (M:=[]) (s:=xorB 54 kb) HS.nil (by simp [xorB_len];omega)) (fun u m1 hh=>?_) lpr
 obtain⟨rfl,x0,b0,hH0,rfl⟩:=hh
 rw [List.nil_append] at hH0 ⊢
 repeat' first|refine Vz ?_|intro _
 rename_i g4 g5
 refine ac_loop (α:=Nat × H8 × Bs) (fun q=>[(4,ptr g4),(5,ptr g5),(6,ptr gh),(20,.sl 1 (l.map str) id),(21,int (l.map str).length),(22,int q.1)])
  (fun q=>[.var gh 305 (hshA q.2.1 q.2.2 (xorB 54 kb++(l.take q.1).flatten).length),.var g5 303 (kbA kb),.var g4 40 (hA zeroH)]) (fun q=>q.1<=l.length/\HS (xorB 54 kb++(l.take q.1).flatten) q.2.1 q.2.2) (fun q=>l.length - q.1) (0,x0,b0) ⟨rfl,rfl,rfl,rfl,rfl,rfl,trivial⟩ ?_ ⟨Nat.zero_le _,by simpa using hH0⟩ ?_
 ·dsimp only
  rw [List.take_zero,List.flatten_nil,List.append_nil]
  exact sbl
 rintro⟨i,x,b⟩ ⟨hi,hH⟩
 dsimp only at hi hH ⊢
 repeat' first|refine Vz ?_|intro _
 have hle:=flat_le (l:=l) i
 refine ac_cond (fun hlt=>?_) (fun hlt=>?_)
 ·have hil:i < l.length:=by omega
  have hle2:=flat_le (l:=l) (i + 1)
  have hfn:=flat_next hil
  rw [hfn,lla] at hle2
  repeat' first|refine Vz ?_|intro _
  refine al_callK [.var gh 305 (hshA x b (xorB 54 kb++(l.take i).flatten).length)] _ (by rw [hs];exact hwrite (s:=l[i]) hH (by rw [lla,xorB_len];omega)) (fun u m1 hh=>?_) lpr
  obtain⟨rfl,x',b',hH',rfl⟩:=hh
  rw [laa,<- hfn] at hH' ⊢
  repeat' first|refine Vz ?_|intro _
  refine ae_round (i + 1,x',b') ⟨rfl,rfl,rfl,rfl,rfl,rfl,trivial⟩ ?_ ⟨hil,hH'⟩ (by dsimp only;omega)
  exact sbl
 ·obtain rfl:i=l.length:=by omega
  rw [List.take_length] at hH ⊢
  repeat' first|refine Vz ?_|intro _
  refine al_callK [] _ (by rw [hs];exact sput hk 92 92 rfl) (fun u m1 hh=>?_) lpr
  obtain⟨rfl,rfl⟩:=hh
  repeat' first|refine Vz ?_|intro _
  refine al_callK [.var gh 305 (hshA x b (xorB 54 kb++l.flatten).length)] _ (by rw [hs];exact hsum hH (by rw [lla,xorB_len];omega)) (fun u m1 hh=>?_) lpr
  obtain⟨rfl,rfl⟩:=hh
  have:LenLe (xorB 92 kb) 64:=⟨by rw [xorB_len];omega⟩
  repeat' first|refine Vz ?_|intro _
  rw [ofH2]
  repeat' first|refine Vz ?_|intro _
  exact reK [] ⟨rfl,rfl⟩ (List.nil_sublist _)
instance fnSeal {k s:Bs}:Ans Tryz.prog GL 236 [str k,str s] (k.length<=1000000/\s.length<=1000000000) (hA (sealH k s)):=⟨fun hp=>by
 obtain⟨hk,hsl⟩:=hp
 refine qE Tryz.func236 rfl Tryz.ntmps236 rfl (fun _ hs=>?_)
 repeat' first|refine Vz ?_|intro _
 refine al_callK [] _ (by rw [hs];exact snew hk) (fun u m1 hh=>?_) lpr
 obtain⟨g,rfl,rfl⟩:=hh
 repeat' first|refine Vz ?_|intro _
 refine al_callK [.var g 317 (kbA (keyB k))] _ (by rw [hs];exact sseal (l:=[s]) (id:=none) (keyB_len k) (by simpa using by omega) (by simp)) (fun u m1 hh=>?_) lpr
 obtain⟨rfl,rfl⟩:=hh
 repeat' first|refine Vz ?_|intro _
 refine reE ?_
 rw [sealH]
 simp [outOf]⟩
end Go.Proofs.YtlkkekpcofjbeaaGreatDoor
