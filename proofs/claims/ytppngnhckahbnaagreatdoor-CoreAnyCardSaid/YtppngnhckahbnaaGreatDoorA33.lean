/- hash: the methods, for values by what they hold -/
import Derived.Test.YtppngnhckahbnaaGreatDoorA18
import Derived.Test.YtppngnhckahbnaaGreatDoorA21
import Derived.Test.YtppngnhckahbnaaGreatDoorA25
import Derived.Test.YtppngnhckahbnaaGreatDoorA26
import Derived.Test.YtppngnhckahbnaaGreatDoorA27
import Derived.Test.YtppngnhckahbnaaGreatDoorA31
import Derived.Test.YtppngnhckahbnaaGreatDoorA32
namespace Go.Proofs.YtppngnhckahbnaaGreatDoor
open Go Go.RowKit Tw Av
theorem up_ans (N:Nat):N≤2000→∀ {n i:Nat} {h:Hsh} {p:List Hsh} {xs:List AV} {id:Option Value} [Hshs xs p],Ans Tryz.prog GL 274 [int n,int i,hA h,.sl 32 xs id] (n≤N∧i < n∧p.length=(turns n i).length) (hA (upH (turns n i) h p)):=by
 induction N with
 | zero=>exact fun _=>⟨fun hc=>absurd hc.2.1 (by omega)⟩
 | succ N ih=>
  intro hN n i h p xs id hx
  have ih:=@ih (by omega)
  refine⟨fun hc=>?_⟩
  obtain⟨c1,c2,c3⟩:=hc
  have hh:=hx.out
  subst hh
  have hm:(p.map hA).length=p.length:=List.length_map _
  refine spec_enter Tryz.func274 rfl Tryz.ntmps274 rfl (fun _ hs=>?_)
  repeat' first|refine Wz ?_|intro _
  refine ac_cond (fun h1=>?_) (fun h1=>?_)
  ·obtain rfl:n=1:=by omega
   repeat' first|refine Wz ?_|intro _
   refine reE ?_
   rfl
  ·have hr:=way_row c2 (by omega)
   have hk0:((n:Int) + 1) / 2=(((n + 1) / 2:Nat):Int):=by omega
   have hpb:p.length≤n:=by rw [c3];exact turns_len n n i (Nat.le_refl _)
   rw [hr,List.length_cons] at c3
   have hpn:p.length - 1 < p.length:=by omega
   have hpe:p=p.take (p.length - 1)++[p[p.length - 1]]:=by
    rw [← List.take_succ_eq_append_getElem hpn,show p.length - 1 + 1=p.length by omega,List.take_length]
   have hup:∀ t ts,upH (t::ts) h p=if t.1=true then nodeH (upH ts h (p.take (p.length - 1))) p[p.length - 1] else nodeH p[p.length - 1] (upH ts h (p.take (p.length - 1))):=fun t ts=>by
    have:=upH_snoc t ts h p[p.length - 1] (p.take (p.length - 1))
    rwa [← hpe] at this
   have htl:((p.take (p.length - 1)).drop 0).length=p.length - 1:=by simp
   repeat' first|refine Wz ?_|intro _
   rw [hk0]
   generalize hk:(n + 1) / 2=k at *
   refine al_idxM (l:=p) (f:=hA) (p.length - 1) hpn ?_
   repeat' first|refine Wz ?_|intro _
   refine ac_cond (fun hlt=>?_) (fun hlt=>?_)
   ·have hik:i < k:=by omega
    rw [if_pos hik,if_pos hik] at hr c3
    repeat' first|refine Wz ?_|intro _
    apply obl_read [];exact rfl;exact rfl;kernel_rfl;intro _ _
    refine al_sliceD 0 (p.length - 1) ?_
    exact al_nil (ae_got rfl rfl)
    apply obl_read [];exact rfl;exact rfl;kernel_rfl;intro _ _
    refine al_callE (hp:=by exact⟨by omega,hik,by rw [htl];omega⟩) ?_
    exact al_nil (ae_got rfl rfl)
    repeat' first|refine Wz ?_|intro _
    refine reE ?_
    rw [hr,hup,if_pos (by simpa using hik),List.drop_zero]
    rfl
   ·have hik:¬ i < k:=by omega
    rw [if_neg hik,if_neg hik] at hr c3
    repeat' first|refine Wz ?_|intro _
    have e1:(n:Int) - (k:Int)=((n - k:Nat):Int):=by omega
    have e2:(i:Int) - (k:Int)=((i - k:Nat):Int):=by omega
    rw [e1,e2]
    repeat' first|refine Wz ?_|intro _
    apply obl_read [];exact rfl;exact rfl;kernel_rfl;intro _ _
    refine al_sliceD 0 (p.length - 1) ?_
    exact al_nil (ae_got rfl rfl)
    apply obl_read [];exact rfl;exact rfl;kernel_rfl;intro _ _
    refine al_callE (hp:=by exact⟨by omega,by omega,by rw [htl];omega⟩) ?_
    exact al_nil (ae_got rfl rfl)
    repeat' first|refine Wz ?_|intro _
    refine reE ?_
    rw [hr,hup,if_neg (by simpa using hik),List.drop_zero]
    rfl
instance fnUp {n i:Nat}{h:Hsh}{p:List Hsh}{xs:List AV}{id:Option Value}[Hshs xs p]:Ans Tryz.prog GL 274 [int n,int i,hA h,.sl 32 xs id] (n≤2000∧i < n∧p.length=(turns n i).length) (hA (upH (turns n i) h p)):=up_ans 2000 (Nat.le_refl _)
instance fnRFold {n i:Int}{h:Hsh}{p:List Hsh}{xs:List AV}{id:Option Value}[hx:Hshs xs p]:Ans Tryz.prog GL 172 [int n,int i,hA h,.sl 32 xs id] (n≤9223372036854775807) (.tup [hA ((foldH n i h p).getD zeroH),boo (foldH n i h p).isSome]):=⟨fun hn=>by
 have hh:=hx.out
 subst hh
 have hmp:(p.map hA).length=p.length:=List.length_map _
 refine spec_enter Tryz.func172 rfl Tryz.ntmps172 rfl (fun _ hs=>?_)
 repeat' first|refine Wz ?_|intro _
 refine gu1 (fun h1=>?_) (fun h1=>?_)
 ·repeat' first|refine Wz ?_|intro _
  refine reE ?_
  rw [bad_fold (.inl h1)]
  rfl
 ·repeat' first|refine Wz ?_|intro _
  refine gu1 (fun h2=>?_) (fun h2=>?_)
  ·repeat' first|refine Wz ?_|intro _
   refine reE ?_
   rw [bad_fold (.inr (.inl h2))]
   rfl
  ·repeat' first|refine Wz ?_|intro _
   refine gu1 (fun h3=>?_) (fun h3=>?_)
   ·repeat' first|refine Wz ?_|intro _
    refine reE ?_
    rw [bad_fold (.inr (.inr (.inl h3)))]
    rfl
   ·repeat' first|refine Wz ?_|intro _
    refine ac_cond (fun h4=>?_) (fun h4=>?_)
    ·repeat' first|refine Wz ?_|intro _
     refine reE ?_
     rw [bad_fold (.inr (.inr (.inr (by omega))))]
     rfl
    ·rw [good_fold (h:=h) (show ¬ (i < 0∨n≤i∨2000 < n∨(wayOf n i).length≠p.length) by omega)]
     obtain⟨N,rfl⟩:∃ N:Nat,n=N:=⟨n.toNat,by omega⟩
     obtain⟨I,rfl⟩:∃ I:Nat,i=I:=⟨i.toNat,by omega⟩
     have hw:wayOf (N:Int) (I:Int)=turns N I:=way_eq (by omega) (by omega)
     rw [hw] at h4 ⊢
     repeat' first|refine Wz ?_|intro _
     refine reE ?_
     rfl⟩
end Go.Proofs.YtppngnhckahbnaaGreatDoor

namespace Go.Proofs.YtppngnhckahbnaaGreatDoor
open Go Go.RowKit Tw Av
theorem take_eq_step {α:Type}{a b:List α}{i:Nat}(h:a.take i=b.take i)(ha:i < a.length)(hb:i < b.length)(he:a[i]=b[i]):a.take (i + 1)=b.take (i + 1):=by
 rw [List.take_succ_eq_append_getElem ha,List.take_succ_eq_append_getElem hb,h,he]
end Go.Proofs.YtppngnhckahbnaaGreatDoor

namespace Go.Proofs.YtppngnhckahbnaaGreatDoor
open Go Go.RowKit Tw Av
end Go.Proofs.YtppngnhckahbnaaGreatDoor

namespace Go.Proofs.YtppngnhckahbnaaGreatDoor
open Go Go.RowKit Tw Av
end Go.Proofs.YtppngnhckahbnaaGreatDoor

namespace Go.Proofs.YtppngnhckahbnaaGreatDoor
open Go Go.RowKit Tw Av
end Go.Proofs.YtppngnhckahbnaaGreatDoor

namespace Go.Proofs.YtppngnhckahbnaaGreatDoor
open Go Go.RowKit Tw Av
structure Prf where
 a:Int
 m:Int
 p:List Hsh
deriving DecidableEq
structure Gp where
 n:Int
 l:List Ent
 r:List Ent
 a:Prf
 b:Prf
deriving DecidableEq
abbrev prfA (x:Prf):AV:=.agg 3 [int x.a,int x.m,.sl 32 (x.p.map hA) none]
abbrev gpA (x:Gp):AV:=.agg 9 [int x.n,.sl 2 (x.l.map entA) none,.sl 2 (x.r.map entA) none,prfA x.a,prfA x.b]
def holdsB (root:Hsh)(x:Ent)(p:Prf):Bool:=(foldH p.m p.a (leafH x) p.p).isSome && decide ((foldH p.m p.a (leafH x) p.p).getD zeroH=root)
def sideB (root:Hsh)(n:Int)(bes:Bs→Bool):List Ent→Prf→Bool
 | [],_=>true
 | [x],p=>bes x.key && (decide (p.m=n) && holdsB root x p)
 | _,_=>false
def endB (root:Hsh)(g:Gp):Bool:=match g.l,g.r with
 | [],[]=>decide (g.n=0) && decide (root=topH 0 (treeH []))
 | [],_=>decide (g.b.a=0)
 | _,[]=>decide (g.a.a=g.n - 1)
 | _,_=>decide (g.b.a=g.a.a + 1)
def missB (root:Hsh)(k:Bs)(g:Gp):Bool:=sideB root g.n (fun a=>blt a k) g.l g.a && (sideB root g.n (fun a=>blt k a) g.r g.b && endB root g)
def fndAt (l:List Ent)(k:Bs):Nat:=l.findIdx fun x=>!blt x.key k
def fndIs (l:List Ent)(k:Bs):Bool:=decide (fndAt l k < l.length∧(l.getD (fndAt l k) ⟨[],[]⟩).key=k)
attribute [irreducible] fndIs
instance fnESame {a b:List Ent}{xs ys:List AV}{id id2:Option Value}[hx:Ents xs a][hy:Ents ys b]:Ans Tryz.prog GL 17 [.sl 2 xs id,.sl 2 ys id2] True (boo (decide (a=b))):=⟨fun _=>by
 have h1:=hx.out
 have h2:=hy.out
 subst h1 h2
 have hma:(a.map entA).length=a.length:=List.length_map _
 have hmb:(b.map entA).length=b.length:=List.length_map _
 refine spec_enter Tryz.func17 rfl Tryz.ntmps17 rfl (fun _ hs=>?_)
 refine ac_bnd 0 (fun hb=>?_)
 have hb:=maxLen_le hb
 repeat' first|refine Vz ?_|intro _
 refine ac_cond (fun hne=>?_) (fun he=>?_)
 ·repeat' first|refine Vz ?_|intro _
  refine reE ?_
  have:a≠b:=fun e=>by subst e;exact hne rfl
  simp [outOf,this]
 ·have hle:a.length=b.length:=by omega
  repeat' first|refine Vz ?_|intro _
  refine ac_loop (α:=Nat) (fun i=>[(0,.sl 2 (a.map entA) id),(1,.sl 2 (b.map entA) id2),(5,int i)]) (fun _=>[]) (fun i=>i≤a.length∧a.take i=b.take i) (fun i=>a.length - i) 0 ⟨rfl,rfl,rfl,trivial⟩ (List.Sublist.refl _) ⟨Nat.zero_le _,rfl⟩ ?_
  rintro i ⟨g1,g2⟩
  repeat' first|refine Vz ?_|intro _
  refine ac_cond (fun hlt=>?_) (fun hlt=>?_)
  ·have ha:i < a.length:=by omega
   have hb:i < b.length:=by omega
   repeat' (first|refine W ?_|refine op3 ?_|refine ob5 ?_|refine opE ?_|refine obE ?_|refine ob2 (fun _=>?_)|intro _)
   have hk:decide (a[i]=b[i])=(decide (a[i].key=b[i].key) && (decide (a[i].val=b[i].val) && true)):=by
    rw [show a[i]=⟨a[i].key,a[i].val⟩ from rfl,show b[i]=⟨b[i].key,b[i].val⟩ from rfl]
    simp [Ent.mk.injEq]
   rw [← hk]
   refine ac_condB (fun hc=>?_) (fun hc=>?_)
   ·repeat' first|refine Vz ?_|intro _
    refine reE ?_
    have hne:a[i]≠b[i]:=by simpa using hc
    have:a≠b:=fun e=>by subst e;exact hne rfl
    simp [outOf,this]
   ·repeat' first|refine Vz ?_|intro _
    exact ae_round (i + 1) ⟨rfl,rfl,rfl,trivial⟩ (List.Sublist.refl _) ⟨ha,take_eq_step g2 ha hb (by simpa using hc)⟩ (by omega)
  ·repeat' first|refine Vz ?_|intro _
   refine reE ?_
   rw [List.take_of_length_le (by omega),List.take_of_length_le (by omega)] at g2
   simp [outOf,g2]⟩
instance fnPHolds {root:Hsh}{a b:Bs}{i m:Int}{p:List Hsh}{xs:List AV}{id:Option Value}[hx:Hshs xs p]:Ans Tryz.prog GL 74 [hA root,.agg 2 [str a,str b],.agg 3 [int i,int m,.sl 32 xs id]] (m≤9223372036854775807) (boo (holdsB root ⟨a,b⟩ ⟨i,m,p⟩)):=⟨fun hl=>by
 have h:=hx.out
 subst h
 refine spec_enter Tryz.func74 rfl Tryz.ntmps74 rfl (fun _ hs=>?_)
 repeat' first|refine Vz ?_|intro _
 rw [holdsB]
 generalize foldH m i (leafH ⟨a,b⟩) p=o
 cases o
 ·repeat' (first|refine W ?_|refine op3 ?_|refine ob5 ?_|refine opE ?_|refine obE ?_|refine ob2 (fun _=>?_)|intro _)
  refine reE ?_
  rfl
 ·repeat' (first|refine W ?_|refine op3 ?_|refine ob5 ?_|refine opE ?_|refine obE ?_|refine ob2 (fun _=>?_)|intro _)
  refine reE ?_
  rfl⟩
instance fnRHolds {root:Hsh}{a b:Bs}{i m:Int}{p:List Hsh}{xs:List AV}{id:Option Value}[hx:Hshs xs p]:Ans Tryz.prog GL 76 [hA root,.agg 2 [str a,str b],.agg 3 [int i,int m,.sl 32 xs id]] (m≤9223372036854775807) (boo (holdsB root ⟨a,b⟩ ⟨i,m,p⟩)):=⟨fun hl=>by
 have h:=hx.out
 subst h
 refine spec_enter Tryz.func76 rfl Tryz.ntmps76 rfl (fun _ hs=>?_)
 repeat' first|refine Vz ?_|intro _
 rw [holdsB]
 generalize foldH m i (leafH ⟨a,b⟩) p=o
 cases o
 ·repeat' (first|refine W ?_|refine op3 ?_|refine ob5 ?_|refine opE ?_|refine obE ?_|refine ob2 (fun _=>?_)|intro _)
  refine reE ?_
  rfl
 ·repeat' (first|refine W ?_|refine op3 ?_|refine ob5 ?_|refine opE ?_|refine obE ?_|refine ob2 (fun _=>?_)|intro _)
  refine reE ?_
  rfl⟩
end Go.Proofs.YtppngnhckahbnaaGreatDoor

namespace Go.Proofs.YtppngnhckahbnaaGreatDoor
open Go Go.RowKit Tw Av
theorem blt_ge {a b:Bs}:(!(blt a b || decide (a=b)))=blt b a:=by
 cases h1:blt a b
 ·by_cases h2:a=b
  ·subst h2
   simp [blt_irrefl]
  ·cases h3:blt b a
   ·exact absurd (blt_total h1 h3) h2
   ·simp [h2]
 ·simp [blt_asymm h1]
theorem miss2 {a k:Bs}{g:Nat}{T:TypeId}:Av.Spec Tryz.prog GL 175 [str a,ptr g] [.var g T (str k)] fun u m=>u=boo (blt a k)∧m=[.var g T (str k)]:=by
 refine spec_enter Tryz.func175 rfl Tryz.ntmps175 rfl (fun _ hs=>?_)
 repeat' first|refine Vz ?_|intro _
 exact reK [.var g T (str k)] ⟨rfl,rfl⟩ (List.Sublist.refl _)
theorem miss3 {a k:Bs}{g:Nat}{T:TypeId}:Av.Spec Tryz.prog GL 176 [str a,ptr g] [.var g T (str k)] fun u m=>u=boo (blt k a)∧m=[.var g T (str k)]:=by
 refine spec_enter Tryz.func176 rfl Tryz.ntmps176 rfl (fun _ hs=>?_)
 repeat' first|refine Vz ?_|intro _
 refine reK [.var g T (str k)] ⟨?_,rfl⟩ (List.Sublist.refl _)
 rw [← blt_ge (a:=a)]
 rfl
theorem miss1 {f:FuncId}[FnB Tryz.prog f]{root:Hsh}{k:Bs}{G:Gp}{l:List Ent}{p:Prf}{gk g5 g3:Nat}{Tk:TypeId}{bes:Bs→Bool}(hb:∀ a,Av.Spec Tryz.prog GL f [str a,ptr gk] [.var gk Tk (str k)] fun u m=>u=boo (bes a)∧m=[.var gk Tk (str k)])(hn:p.m≤9223372036854775807) :
  Av.Spec Tryz.prog GL 174 [.sl 2 (l.map entA) none,prfA p,fnv f [.pointer (some ⟨gk,0,none⟩)],ptr g5,ptr g3] [.var g5 52 (gpA G),.var gk Tk (str k),.var g3 38 (hA root)]
   fun u m=>u=boo (sideB root G.n bes l p)∧m=[.var g5 52 (gpA G),.var gk Tk (str k),.var g3 38 (hA root)]:=by
 refine spec_enter Tryz.func174 rfl Tryz.ntmps174 rfl (fun _ hs=>?_)
 rcases l with _|⟨x,_|⟨y,l⟩⟩
 ·repeat' first|refine Zz ?_|intro _
  exact reK [.var g5 52 (gpA G),.var gk Tk (str k),.var g3 38 (hA root)] ⟨rfl,rfl⟩ (List.sublist_cons_self _ _)
 ·repeat' first|refine Zz ?_|intro _
  apply obl_read [2];exact rfl;exact rfl;kernel_rfl;intro s' hs'
  refine al_on ?_
  refine al_callV (args:=[str x.key]) (cs:=[.pointer (some ⟨gk,0,none⟩)]) [.var gk Tk (str k)] _ (by rw [hs'];exact hb x.key) (fun u m1 hh=>?_) (List.Perm.refl _)
  obtain⟨rfl,rfl⟩:=hh
  exact al_nil (ae_got rfl rfl)
  cases hbe:bes x.key
  ·repeat' first|refine Zz ?_|intro _
   refine reK [.var g5 52 (gpA G),.var gk Tk (str k),.var g3 38 (hA root)] ⟨?_,rfl⟩ (List.sublist_cons_self _ _)
   simp [outOf,sideB,hbe]
  ·by_cases hpm:p.m=G.n
   ·repeat' first|refine Zz ?_|intro _
    rw [decide_eq_true hpm]
    repeat' first|refine Vz ?_|intro _
    refine reK [.var g5 52 (gpA G),.var gk Tk (str k),.var g3 38 (hA root)] ⟨?_,rfl⟩ (List.sublist_cons_self _ _)
    simp only [outOf,sideB,hbe,hpm,decide_true,Bool.true_and]
    rw [← hpm]
   ·repeat' first|refine Zz ?_|intro _
    rw [decide_eq_false hpm]
    repeat' first|refine Vz ?_|intro _
    refine reK [.var g5 52 (gpA G),.var gk Tk (str k),.var g3 38 (hA root)] ⟨?_,rfl⟩ (List.sublist_cons_self _ _)
    simp [outOf,sideB,hbe,hpm]
 ·repeat' first|refine Zz ?_|intro _
  refine reK [.var g5 52 (gpA G),.var gk Tk (str k),.var g3 38 (hA root)] ⟨?_,rfl⟩ (List.sublist_cons_self _ _)
  simp [outOf,sideB]
end Go.Proofs.YtppngnhckahbnaaGreatDoor

namespace Go.Proofs.YtppngnhckahbnaaGreatDoor
open Go Go.RowKit Tw Av
theorem holds_bnd {root:Hsh}{x:Ent}{i m:Int}{p:List Hsh}(h:holdsB root x ⟨i,m,p⟩=true):0≤i∧i < m∧m≤2000:=by
 unfold holdsB foldH at h
 dsimp only at h
 split at h
 ·simp at h
 ·omega
theorem side_bnd {root:Hsh}{n i m:Int}{bes:Bs→Bool}{x:Ent}{l:List Ent}{p:List Hsh}(h:sideB root n bes (x::l) ⟨i,m,p⟩=true):0≤i∧i < n∧n≤2000:=by
 rcases l with _|⟨y,l⟩
 ·simp only [sideB,Bool.and_eq_true,decide_eq_true_eq] at h
  obtain⟨_,h1,h2⟩:=h
  have:=holds_bnd h2
  omega
 ·simp [sideB] at h
set_option maxHeartbeats 1000000 in
instance fnMissing {root:Hsh}{k:Bs}{n i m i2 m2:Int}{l r:List Ent}{p q:List Hsh}{xs ys zs ws:List AV}[hx:Ents xs l][hy:Ents ys r][hz:Hshs zs p][hw:Hshs ws q] :
  Ans Tryz.prog GL 77 [hA root,str k,.agg 9 [int n,.sl 2 xs none,.sl 2 ys none,.agg 3 [int i,int m,.sl 32 zs none],.agg 3 [int i2,int m2,.sl 32 ws none]]] (m≤9223372036854775807∧m2≤9223372036854775807) (boo (missB root k ⟨n,l,r,⟨i,m,p⟩,⟨i2,m2,q⟩⟩)):=⟨fun hpre=>by
 obtain⟨c1,c2⟩:=hpre
 have h1:=hx.out
 have h2:=hy.out
 have h3:=hz.out
 have h4:=hw.out
 subst h1 h2 h3 h4
 refine spec_enter Tryz.func77 rfl Tryz.ntmps77 rfl (fun _ hs=>?_)
 repeat' first|refine Vz ?_|intro _
 rename_i g3 g4 g5
 refine al_makeFunc (vs:=[.pointer (some ⟨g5,0,none⟩),.pointer (some ⟨g3,0,none⟩)]) ?_
 repeat' first|refine Vz ?_|intro _
 refine al_makeFunc (vs:=[.pointer (some ⟨g4,0,none⟩)]) ?_
 repeat' first|refine Vz ?_|intro _
 refine al_callV (args:=[.sl 2 (l.map entA) none,prfA ⟨i,m,p⟩,fnv 175 [.pointer (some ⟨g4,0,none⟩)]]) (cs:=[.pointer (some ⟨g5,0,none⟩),.pointer (some ⟨g3,0,none⟩)])
  [.var g5 52 (gpA ⟨n,l,r,⟨i,m,p⟩,⟨i2,m2,q⟩⟩),.var g4 9 (str k),.var g3 38 (hA root)] [] (by rw [hs];exact miss1 (bes:=fun a=>blt a k) (fun a=>miss2) c1) (fun u m1 hh=>?_) (List.Perm.refl _)
 obtain⟨rfl,rfl⟩:=hh
 unfold missB
 dsimp only
 cases hs1:sideB root n (fun a=>blt a k) l ⟨i,m,p⟩
 ·repeat' first|refine Zz ?_|intro _
  refine reE ?_
  rfl
 ·repeat' first|refine Vz ?_|intro _
  refine al_makeFunc (vs:=[.pointer (some ⟨g4,0,none⟩)]) ?_
  refine al_on ?_
  refine al_callV (args:=[.sl 2 (r.map entA) none,prfA ⟨i2,m2,q⟩,fnv 176 [.pointer (some ⟨g4,0,none⟩)]]) (cs:=[.pointer (some ⟨g5,0,none⟩),.pointer (some ⟨g3,0,none⟩)])
   [.var g5 52 (gpA ⟨n,l,r,⟨i,m,p⟩,⟨i2,m2,q⟩⟩),.var g4 9 (str k),.var g3 38 (hA root)] [] (by rw [hs];exact miss1 (bes:=fun a=>blt k a) (fun a=>miss3) c2) (fun u m1 hh=>?_) (List.Perm.refl _)
  obtain⟨rfl,rfl⟩:=hh
  cases hs2:sideB root n (fun a=>blt k a) r ⟨i2,m2,q⟩
  ·repeat' first|refine Zz ?_|intro _
   refine reE ?_
   rfl
  ·have h0:((([]:List Ent)).map entA).length=0:=rfl
   rcases l with _|⟨x,l⟩
   ·rcases r with _|⟨y,r⟩
    ·by_cases hn:n=0
     ·repeat' first|refine Zz ?_|intro _
      rw [decide_eq_true hn]
      repeat' (first|refine W ?_|refine op3 ?_|refine ob5 ?_|refine opE ?_|refine obE ?_|refine ob2 (fun _=>?_)|intro _)
      apply obl_read [];exact rfl;exact rfl;kernel_rfl;intro _ _
      refine al_on ?_
      refine al_callI [.agg 1 [.sl 2 [] none]] (hp:=Nat.zero_le _) ?_
      exact al_nil (ae_got rfl rfl)
      repeat' (first|refine W ?_|refine op3 ?_|refine ob5 ?_|refine opE ?_|refine obE ?_|refine ob2 (fun _=>?_)|intro _)
      refine reE ?_
      simp [outOf,hn,endB]
     ·repeat' first|refine Zz ?_|intro _
      rw [decide_eq_false hn]
      repeat' (first|refine W ?_|refine op3 ?_|refine ob5 ?_|refine opE ?_|refine obE ?_|refine ob2 (fun _=>?_)|intro _)
      refine reE ?_
      simp [outOf,hn,endB]
    ·have hmr:((y::r).map entA).length=r.length + 1:=by simp
     repeat' first|refine Zz ?_|intro _
     refine reE ?_
     rfl
   ·have hml:((x::l).map entA).length=l.length + 1:=by simp
    obtain⟨c3,c4,c5⟩:=side_bnd hs1
    rcases r with _|⟨y,r⟩
    ·repeat' first|refine Zz ?_|intro _
     refine reE ?_
     rfl
    ·have hmr:((y::r).map entA).length=r.length + 1:=by simp
     repeat' first|refine Zz ?_|intro _
     refine reE ?_
     rfl⟩
end Go.Proofs.YtppngnhckahbnaaGreatDoor

namespace Go.Proofs.YtppngnhckahbnaaGreatDoor
open Go Go.RowKit Tw Av
set_option maxHeartbeats 2000000 in
instance fnRMissing {root:Hsh}{k:Bs}{n i m i2 m2:Int}{l r:List Ent}{p q:List Hsh}{xs ys zs ws:List AV}[hx:Ents xs l][hy:Ents ys r][hz:Hshs zs p][hw:Hshs ws q] :
  Ans Tryz.prog GL 78 [hA root,str k,.agg 9 [int n,.sl 2 xs none,.sl 2 ys none,.agg 3 [int i,int m,.sl 32 zs none],.agg 3 [int i2,int m2,.sl 32 ws none]]] (m≤9223372036854775807∧m2≤9223372036854775807) (boo (missB root k ⟨n,l,r,⟨i,m,p⟩,⟨i2,m2,q⟩⟩)):=⟨fun hpre=>by
 obtain⟨c1,c2⟩:=hpre
 have h1:=hx.out
 have h2:=hy.out
 have h3:=hz.out
 have h4:=hw.out
 subst h1 h2 h3 h4
 refine spec_enter Tryz.func78 rfl Tryz.ntmps78 rfl (fun _ hs=>?_)
 unfold missB
 dsimp only
 have hcons1:∀ x:Ent,([x].map entA).length=1:=fun x=>rfl
 have hcons2:∀ (x y:Ent) (l:List Ent),((x::y::l).map entA).length=l.length + 2:=fun x y l=>by simp
 have h0:((([]:List Ent)).map entA).length=0:=rfl
 rcases l with _|⟨⟨xk,xv⟩,_|⟨x2,l⟩⟩
 ·rcases r with _|⟨⟨yk,yv⟩,_|⟨y2,r⟩⟩
  ·by_cases hn:n=0
   ·repeat' first|refine Zz ?_|intro _
    rw [decide_eq_true hn]
    repeat' (first|refine W ?_|refine op3 ?_|refine ob5 ?_|refine opE ?_|refine obE ?_|refine ob2 (fun _=>?_)|intro _)
    apply obl_read [];exact rfl;exact rfl;kernel_rfl;intro _ _
    refine al_on ?_
    refine al_callI [.sl 2 [] none] (hp:=Nat.zero_le _) ?_
    exact al_nil (ae_got rfl rfl)
    repeat' (first|refine W ?_|refine op3 ?_|refine ob5 ?_|refine opE ?_|refine obE ?_|refine ob2 (fun _=>?_)|intro _)
    refine reE ?_
    simp [outOf,hn,endB,sideB]
   ·repeat' first|refine Zz ?_|intro _
    rw [decide_eq_false hn]
    repeat' (first|refine W ?_|refine op3 ?_|refine ob5 ?_|refine opE ?_|refine obE ?_|refine ob2 (fun _=>?_)|intro _)
    refine reE ?_
    simp [outOf,hn,endB,sideB]
  ·have hl1:=hcons1 ⟨yk,yv⟩
   repeat' first|refine Zz ?_|intro _
   cases hH2:holdsB root ⟨yk,yv⟩ ⟨i2,m2,q⟩
   focus
    repeat' first|refine Zz ?_|intro _
    refine reE ?_
    simp [outOf,sideB,hH2]
   by_cases hq2:m2=n
   rotate_left
   focus
    repeat' first|refine Zz ?_|intro _
    refine reE ?_
    simp [outOf,sideB,hq2]
   repeat' first|refine Zz ?_|intro _
   have hge:(blt yk k || decide (yk=k))=!blt k yk:=by rw [← blt_ge (a:=yk) (b:=k),Bool.not_not]
   rw [hge]
   cases hk2:blt k yk
   focus
    repeat' first|refine Zz ?_|intro _
    refine reE ?_
    simp [outOf,sideB,hk2]
   repeat' first|refine Zz ?_|intro _
   refine reE ?_
   rw [hq2] at hH2
   simp [outOf,sideB,endB,hH2,hq2,hk2]
  ·have hl1:=hcons2 ⟨yk,yv⟩ y2 r
   repeat' first|refine Zz ?_|intro _
   refine reE ?_
   simp [outOf,sideB]
 ·have hl3:=hcons1 ⟨xk,xv⟩
  rcases r with _|⟨⟨yk,yv⟩,_|⟨y2,r⟩⟩
  ·repeat' first|refine Zz ?_|intro _
   cases hH1:holdsB root ⟨xk,xv⟩ ⟨i,m,p⟩
   focus
    repeat' first|refine Zz ?_|intro _
    refine reE ?_
    simp [outOf,sideB,hH1]
   have hb1:=holds_bnd hH1
   by_cases hq1:m=n
   rotate_left
   focus
    repeat' first|refine Zz ?_|intro _
    refine reE ?_
    simp [outOf,sideB,hq1]
   repeat' first|refine Zz ?_|intro _
   cases hk1:blt xk k
   focus
    repeat' first|refine Zz ?_|intro _
    refine reE ?_
    simp [outOf,sideB,hk1]
   repeat' first|refine Zz ?_|intro _
   refine reE ?_
   rw [hq1] at hH1
   simp [outOf,sideB,endB,hH1,hq1,hk1]
  ·have hl1:=hcons1 ⟨yk,yv⟩
   repeat' first|refine Zz ?_|intro _
   cases hH1:holdsB root ⟨xk,xv⟩ ⟨i,m,p⟩
   focus
    repeat' first|refine Zz ?_|intro _
    refine reE ?_
    simp [outOf,sideB,hH1]
   have hb1:=holds_bnd hH1
   by_cases hq1:m=n
   rotate_left
   focus
    repeat' first|refine Zz ?_|intro _
    refine reE ?_
    simp [outOf,sideB,hq1]
   repeat' first|refine Zz ?_|intro _
   cases hk1:blt xk k
   focus
    repeat' first|refine Zz ?_|intro _
    refine reE ?_
    simp [outOf,sideB,hk1]
   repeat' first|refine Zz ?_|intro _
   cases hH2:holdsB root ⟨yk,yv⟩ ⟨i2,m2,q⟩
   focus
    repeat' first|refine Zz ?_|intro _
    refine reE ?_
    simp [outOf,sideB,hH2]
   by_cases hq2:m2=n
   rotate_left
   focus
    repeat' first|refine Zz ?_|intro _
    refine reE ?_
    simp [outOf,sideB,hq2]
   repeat' first|refine Zz ?_|intro _
   have hge:(blt yk k || decide (yk=k))=!blt k yk:=by rw [← blt_ge (a:=yk) (b:=k),Bool.not_not]
   rw [hge]
   cases hk2:blt k yk
   focus
    repeat' first|refine Zz ?_|intro _
    refine reE ?_
    simp [outOf,sideB,hk2]
   repeat' first|refine Zz ?_|intro _
   refine reE ?_
   rw [hq1] at hH1
   rw [hq2] at hH2
   simp [outOf,sideB,endB,hH1,hq1,hk1,hH2,hq2,hk2]
  ·have hl1:=hcons2 ⟨yk,yv⟩ y2 r
   repeat' first|refine Zz ?_|intro _
   refine reE ?_
   simp [outOf,sideB]
 ·have hl1:=hcons2 ⟨xk,xv⟩ x2 l
  repeat' first|refine Zz ?_|intro _
  refine reE ?_
  simp [outOf,sideB]⟩
end Go.Proofs.YtppngnhckahbnaaGreatDoor

namespace Go.Proofs.YtppngnhckahbnaaGreatDoor
open Go Go.RowKit Tw Av
end Go.Proofs.YtppngnhckahbnaaGreatDoor

namespace Av
open Go Go.RowKit Tw
section
variable {P:Program} {N:Nat} {ops:Array Oper} {Q:Exit→Act→World→Prop} {rest:List Oper} {s:Base} {e:Env} {m:List Piece} {d:Nat} {ty:TypeId} {pos:String} {af:Array Edge}
end
end Av
namespace Go.Proofs.YtppngnhckahbnaaGreatDoor
open Go Go.RowKit Tw Av
end Go.Proofs.YtppngnhckahbnaaGreatDoor

namespace Go.Proofs.YtppngnhckahbnaaGreatDoor
open Go Go.RowKit Tw Av
end Go.Proofs.YtppngnhckahbnaaGreatDoor

namespace Go.Proofs.YtppngnhckahbnaaGreatDoor
open Go Go.RowKit Tw Av
end Go.Proofs.YtppngnhckahbnaaGreatDoor

namespace Go.Proofs.YtppngnhckahbnaaGreatDoor
open Go Go.RowKit Tw Av
end Go.Proofs.YtppngnhckahbnaaGreatDoor

namespace Av
open Go Go.RowKit Tw
section
variable {P:Program} {N:Nat} {s:Base} {e:Env} {m:List Piece}
end
end Av
namespace Go.Proofs.YtppngnhckahbnaaGreatDoor
open Go Go.RowKit Tw Av
instance {k:Nat}:ImpT (.lit (.slice none 0 0)) (.sl k [] (some (.slice none 0 0))):=⟨ImpC.nilS⟩
end Go.Proofs.YtppngnhckahbnaaGreatDoor

namespace Go.Proofs.YtppngnhckahbnaaGreatDoor
open Go Go.RowKit Tw Av
end Go.Proofs.YtppngnhckahbnaaGreatDoor

namespace Go.Proofs.YtppngnhckahbnaaGreatDoor
open Go Go.RowKit Tw Av
def prfB (p:Prf):Bs:=tlvI 105 p.a++tlvI 109 p.m++tlvA 112 (p.p.map fun h=>h.l)
def sideT (l:List Ent):List Bs:=l.flatMap fun x=>[x.key,x.val]
def sidB (l:List Ent)(p:Prf):Bs:=tlvA 101 (sideT l)++tlvT 80 (prfB p)
end Go.Proofs.YtppngnhckahbnaaGreatDoor

namespace Go.Proofs.YtppngnhckahbnaaGreatDoor
open Go Go.RowKit Tw Av
instance {l:List Ent}{p:Prf}:LenLe (sidB l p) 33554438:=⟨by
 have h1:=tlvT_len 101 ((sideT l).flatMap (tlvT 101))
 have h2:=tlvT_len 80 (prfB p)
 have e:sidB l p=tlvT 101 ((sideT l).flatMap (tlvT 101))++tlvT 80 (prfB p):=rfl
 rw [e,List.length_append]
 omega⟩
end Go.Proofs.YtppngnhckahbnaaGreatDoor

namespace Go.Proofs.YtppngnhckahbnaaGreatDoor
open Go Go.RowKit Tw Av
end Go.Proofs.YtppngnhckahbnaaGreatDoor

namespace Go.Proofs.YtppngnhckahbnaaGreatDoor
open Go Go.RowKit Tw Av
end Go.Proofs.YtppngnhckahbnaaGreatDoor

namespace Go.Proofs.YtppngnhckahbnaaGreatDoor
open Go Go.RowKit Tw Av
class RgSl (a:AV)(l:List Ent):Prop where
 imp:ImpT a (.sl 2 (l.map entA) none)
instance : RgSl (.lit (.slice none 0 0)) [] := ⟨(inferInstance : ImpT _ (.sl 2 [] none))⟩
instance {k v:Bs}:RgSl (.sl 2 [.agg 2 [str k,str v]] none) [⟨k,v⟩]:=⟨(inferInstance:ImpT _ (.sl 2 [.agg 2 [str k,str v]] none))⟩
end Go.Proofs.YtppngnhckahbnaaGreatDoor

namespace Go.Proofs.YtppngnhckahbnaaGreatDoor
open Go Go.RowKit Tw Av
end Go.Proofs.YtppngnhckahbnaaGreatDoor

namespace Go.Proofs.YtppngnhckahbnaaGreatDoor
open Go Go.RowKit Tw Av
end Go.Proofs.YtppngnhckahbnaaGreatDoor

namespace Go.Proofs.YtppngnhckahbnaaGreatDoor
open Go Go.RowKit Tw Av
def hshA (x:H8)(buf:Bs)(n:Nat):AV:=.agg 74 ((hsh x buf n).map fun v=>.lit (id v))
theorem hsh_len74 {x:H8}{buf:Bs}{n:Nat}(hb:buf.length=64):(hsh x buf n).length=74:=hsw_len _ _ _ rfl hb
theorem hshA_rc {ok:Ok}{w:World}{x:H8}{buf:Bs}{n:Nat}(hb:buf.length=64):RC ok w (hshA x buf n) (hsh x buf n):=by
 unfold hshA
 rw [RC]
 refine⟨hsh_len74 hb,?_⟩
 have h1:∀ v ∈ hsh x buf n,v.oneCell'=true:=fun v hv=>hsh_good x.words buf n v (by rw [(hsh_units _ _ _).fl];exact hv)
 generalize hsh x buf n=l at h1
 induction l with
 | nil=>rw [List.map_nil,RCs]
 | cons a l ih=>
  rw [List.map_cons,RCs]
  exact⟨[a],l,rfl,by rw [RC];exact⟨rfl,h1 a (by simp)⟩,ih fun v hv=>h1 v (by simp [hv])⟩
theorem hshA_cs {ok:Ok}{w:World}{x:H8}{buf:Bs}{n:Nat}{cs:List Value}(h:RC ok w (hshA x buf n) cs):cs=fl (hsh x buf n):=by
 unfold hshA at h
 rw [RC] at h
 rw [(hsh_units _ _ _).fl,rcs_lits h.2]
 simp
theorem hnew:Av.Spec Tryz.prog GL 338 [] [] fun u m'=>∃ g,u=ptr g∧m'=[.var g 366 (hshA h0 (zeros 64) 0)]:=
 spec_new (vs:=hsh h0 (zeros 64) 0) (fun ok w=>by rw [(hsh_units _ _ _).fl];exact hshA_rc rfl) fun ok w cargs hg hv=>by
  obtain rfl:=(show cargs=[] from hv)
  exact new_spec w (glo_of hg)
def Hashed (g:Nat)(M:Bs)(m:List Av.Piece):Prop:=∃ x buf,HS M x buf∧m=[.var g 366 (hshA x buf M.length)]
theorem glob_ne {ok:Ok}{w:World}{g:Nat}(h:Glob GL ok w)(hn:∀ j,¬ ok g j):g≠1∧g≠2:=by
 refine⟨?_,?_⟩
 ·rintro rfl
  obtain⟨cs,h1,h2⟩:=h _ (by unfold GL;exact List.mem_cons_self)
  rw [RC] at h2
  have h3:=rcs_lits h2.2
  subst h3
  exact hn _ (h1 0 _ (by simp [H8.words];rfl)).2
 ·rintro rfl
  obtain⟨cs,h1,h2⟩:=h (2,_) (by unfold GL;exact List.mem_cons_of_mem _ List.mem_cons_self)
  rw [RC] at h2
  have h3:=rcs_lits h2.2
  subst h3
  exact hn _ (h1 0 _ (by simp [kTab];rfl)).2
theorem hwrite {g:Nat}{M s:Bs}{x:H8}{buf:Bs}(hH:HS M x buf)(hl:M.length + s.length≤4611686018427387904):Av.Spec Tryz.prog GL 339 [ptr g,str s] [.var g 366 (hshA x buf M.length)] fun u m'=>u=.tup []∧Hashed g (M++s) m':=by
 refine (spec_mod (R:=fun v=>∃ x' buf',HS (M++s) x' buf'∧v=hshA x' buf' (M++s).length) (fun ok w cs h=>hshA_cs h) fun ok w cargs hg hn hv hb=>?_).mono fun u m' hh=>?_
 ·obtain⟨u1,us,rfl,h1,rfl⟩:=hv
  rw [RV0.lit h1]
  obtain⟨n1,n2⟩:=glob_ne hg hn
  refine (write_spec w g M x buf s (glo_of hg) n1 n2 hb hH hl).mono fun v w' hh=>?_
  obtain⟨e,x',buf',h2,h3⟩:=hh
  exact⟨e,_,_,⟨x',buf',h2,rfl⟩,h3,fun ok w=>by rw [(hsh_units _ _ _).fl];exact hshA_rc h2.len⟩
 ·obtain⟨e,v',⟨x',buf',h2,rfl⟩,e2⟩:=hh
  exact⟨e,x',buf',h2,e2⟩
theorem hsum {g:Nat}{M:Bs}{x:H8}{buf:Bs}(hH:HS M x buf)(hl:M.length≤1152921504606846976):Av.Spec Tryz.prog GL 340 [ptr g] [.var g 366 (hshA x buf M.length)] fun u m'=>u=hA (shaH M)∧m'=[.var g 366 (hshA x buf M.length)]:=
 spec_get (fun ok w cs h=>hshA_cs h) fun ok w cargs hg hv hb=>by
  obtain rfl:=(show cargs=[] from hv)
  exact (sum_spec w g M x buf (glo_of hg) hb hH hl).mono fun v w' hh=>⟨fun ok w=>by rw [hh.1];exact RV_hA _,hh.2⟩
end Go.Proofs.YtppngnhckahbnaaGreatDoor
