/- seals, walked -/
import Derived.Test.YtlmcongmglfaeaaGreatDoorD20
import Derived.Test.YtlmcongmglfaeaaGreatDoorD24
import Derived.Test.YtlmcongmglfaeaaGreatDoorD25
import Derived.Test.YtlmcongmglfaeaaGreatDoorD26
import Derived.Test.YtlmcongmglfaeaaGreatDoorD28
import Derived.Test.YtlmcongmglfaeaaGreatDoorD29
namespace Go.Proofs.YtlmcongmglfaeaaGreatDoor
open Go Go.RowKit Tw Av
structure Prf where
 a:Int
 m:Int
 p:List Hsh
deriving DecidableEq
structure Gp where
 n:Int
 l:List Ent
 r:List Ent
 a:Prf
 b:Prf
deriving DecidableEq
abbrev prfA (x:Prf):AV:=.agg 3 [int x.a,int x.m,.sl 32 (x.p.map hA) none]
abbrev gpA (x:Gp):AV:=.agg 9 [int x.n,.sl 2 (x.l.map entA) none,.sl 2 (x.r.map entA) none,prfA x.a,prfA x.b]
def zeroP:Prf:=⟨0,0,[]⟩
def zeroG:Gp:=⟨0,[],[],zeroP,zeroP⟩
def atP (d:List Ent)(i:Int):Prf:=⟨i,d.length,pathH (d.map leafH) i⟩
def memP (d:List Ent)(i:Nat)(is:Bool):Prf:=if is=true then atP d i else zeroP
def absG (d:List Ent)(i:Nat)(is:Bool):Gp:=if is=true then zeroG else
 ⟨d.length,if 0 < i then [d.getD (i - 1) ⟨[],[]⟩] else [],if i < d.length then [d.getD i ⟨[],[]⟩] else [],if 0 < i then atP d ((i - 1:Nat):Int) else zeroP,if i < d.length then atP d i else zeroP⟩
def holdsB (root:Hsh)(x:Ent)(p:Prf):Bool:=(foldH p.m p.a (leafH x) p.p).isSome && decide ((foldH p.m p.a (leafH x) p.p).getD zeroH=root)
def sideB (root:Hsh)(n:Int)(bes:Bs->Bool):List Ent->Prf->Bool
 | [],_=>true
 | [x],p=>bes x.key && (decide (p.m=n) && holdsB root x p)
 | _,_=>false
def endB (root:Hsh)(g:Gp):Bool:=match g.l,g.r with
 | [],[]=>decide (g.n=0) && decide (root=topH 0 (treeH []))
 | [],_=>decide (g.b.a=0)
 | _,[]=>decide (g.a.a=g.n - 1)
 | _,_=>decide (g.b.a=g.a.a + 1)
def missB (root:Hsh)(k:Bs)(g:Gp):Bool:=sideB root g.n (fun a=>blt a k) g.l g.a && (sideB root g.n (fun a=>blt k a) g.r g.b && endB root g)
def fndAt (l:List Ent)(k:Bs):Nat:=l.findIdx fun x=>!blt x.key k
def fndIs (l:List Ent)(k:Bs):Bool:=decide (fndAt l k < l.length/\(l.getD (fndAt l k) ⟨[],[]⟩).key=k)
theorem fndAt_le (l:List Ent)(k:Bs):fndAt l k<=l.length:=List.findIdx_le_length
theorem fndAt_step {l:List Ent}{k:Bs}{i:Nat}(hi:i < l.length)(hb:∀ j,(hj:j < i)->blt (l[j]'(by omega)).key k=true)(hh:blt l[i].key k=false):fndAt l k=i:=by
 unfold fndAt
 rw [List.findIdx_eq hi]
 exact⟨by simpa using hh,fun j hj=>by simpa using hb j hj⟩
theorem fndAt_none {l:List Ent}{k:Bs}(hb:∀ j,(hj:j < l.length)->blt l[j].key k=true):fndAt l k=l.length:=by
 unfold fndAt
 rw [List.findIdx_eq_length]
 intro x hx
 obtain⟨j,hj,rfl⟩:=List.getElem_of_mem hx
 simpa using hb j hj
theorem getD_at {α:Type}{l:List α}{i:Nat}{d:α}(h:i < l.length):l.getD i d=l[i]:=by simp [List.getD,h]
instance fnR8Find {l:List Ent}{k:Bs}{xs:List AV}{id:Option Value}[hx:Ents xs l]:Ans Tryz.prog GL 195 [.sl 2 xs id,str k] True (.tup [int (fndAt l k),boo (fndIs l k)]):=⟨fun _=>by
 have h:=hx.out
 subst h
 have hm:(l.map entA).length=l.length:=llm _
 refine qE Tryz.func195 rfl Tryz.ntmps195 rfl (fun _ hs=>?_)
 refine ac_bnd 0 (fun hb=>?_)
 have hb:=maxLen_le hb
 repeat' first|refine Vz ?_|intro _
 refine ac_loop (α:=Nat) (fun i=>[(0,.sl 2 (l.map entA) id),(1,str k),(6,int i)]) (fun _=>[]) (fun i=>i<=l.length/\∀ j,(hj:j < l.length)->j < i->blt l[j].key k=true) (fun i=>l.length - i) 0 ⟨rfl,rfl,rfl,trivial⟩ slr ⟨Nat.zero_le _,fun _ _ h=>absurd h (by omega)⟩ ?_
 rintro i ⟨g1,g2⟩
 repeat' first|refine Vz ?_|intro _
 refine ac_cond (fun hlt=>?_) (fun hlt=>?_)
 ·have hil:i < l.length:=by omega
  repeat' first|refine Vz ?_|intro _
  refine ac_condB (fun hc=>?_) (fun hc=>?_)
  ·repeat' (first|refine W ?_|refine op3 ?_|refine ob5 ?_|refine opE ?_|refine obE ?_|refine ob2 (fun _=>?_)|intro _)
   refine reE ?_
   have e:=fndAt_step hil (fun j hj=>g2 j (by omega) hj) (by simpa using hc)
   rw [fndIs,e,getD_at hil]
   simp [outOf,hil]
  ·repeat' first|refine Vz ?_|intro _
   refine ae_round (i + 1) ⟨rfl,rfl,rfl,trivial⟩ slr ⟨hil,fun j hj h=>?_⟩ (by omega)
   rcases Nat.lt_or_ge j i with h2|h2
   ·exact g2 j hj h2
   ·obtain rfl:j=i:=by omega
    simpa using hc
 ·obtain rfl:i=l.length:=by omega
  repeat' first|refine Vz ?_|intro _
  refine reE ?_
  have e:=fndAt_none (fun j hj=>g2 j hj hj)
  rw [fndIs,e]
  simp [outOf]⟩
attribute [irreducible] fndIs
instance fnESame {a b:List Ent}{xs ys:List AV}{id id2:Option Value}[hx:Ents xs a][hy:Ents ys b]:Ans Tryz.prog GL 13 [.sl 2 xs id,.sl 2 ys id2] True (boo (decide (a=b))):=⟨fun _=>by
 have h1:=hx.out
 have h2:=hy.out
 subst h1 h2
 have hma:(a.map entA).length=a.length:=llm _
 have hmb:(b.map entA).length=b.length:=llm _
 refine qE Tryz.func13 rfl Tryz.ntmps13 rfl (fun _ hs=>?_)
 refine ac_bnd 0 (fun hb=>?_)
 have hb:=maxLen_le hb
 repeat' first|refine Vz ?_|intro _
 refine ac_cond (fun hne=>?_) (fun he=>?_)
 ·repeat' first|refine Vz ?_|intro _
  refine reE ?_
  have:a≠b:=fun e=>by subst e;exact hne rfl
  simp [outOf,this]
 ·have hle:a.length=b.length:=by omega
  repeat' first|refine Vz ?_|intro _
  refine ac_loop (α:=Nat) (fun i=>[(0,.sl 2 (a.map entA) id),(1,.sl 2 (b.map entA) id2),(5,int i)]) (fun _=>[]) (fun i=>i<=a.length/\a.take i=b.take i) (fun i=>a.length - i) 0 ⟨rfl,rfl,rfl,trivial⟩ slr ⟨Nat.zero_le _,rfl⟩ ?_
  rintro i ⟨g1,g2⟩
  repeat' first|refine Vz ?_|intro _
  refine ac_cond (fun hlt=>?_) (fun hlt=>?_)
  ·have ha:i < a.length:=by omega
   have hb:i < b.length:=by omega
   repeat' (first|refine W ?_|refine op3 ?_|refine ob5 ?_|refine opE ?_|refine obE ?_|refine ob2 (fun _=>?_)|intro _)
   have hk:decide (a[i]=b[i])=(decide (a[i].key=b[i].key) && (decide (a[i].val=b[i].val) && true)):=by
    rw [show a[i]=⟨a[i].key,a[i].val⟩ from rfl,show b[i]=⟨b[i].key,b[i].val⟩ from rfl]
    simp [Ent.mk.injEq]
   rw [<- hk]
   refine ac_condB (fun hc=>?_) (fun hc=>?_)
   ·repeat' first|refine Vz ?_|intro _
    refine reE ?_
    have hne:a[i]≠b[i]:=by simpa using hc
    have:a≠b:=fun e=>by subst e;exact hne rfl
    simp [outOf,this]
   ·repeat' first|refine Vz ?_|intro _
    exact ae_round (i + 1) ⟨rfl,rfl,rfl,trivial⟩ slr ⟨ha,take_eq_step g2 ha hb (by simpa using hc)⟩ (by omega)
  ·repeat' first|refine Vz ?_|intro _
   refine reE ?_
   rw [List.take_of_length_le (by omega),List.take_of_length_le (by omega)] at g2
   simp [outOf,g2]⟩
theorem imp_zeroP:Imp (.tup [.agg 3 [int 0,int 0,.lit (.slice none 0 0)],boo false]) (.tup [prfA zeroP,boo false]):=(inferInstance:ImpR _ (.tup [.agg 3 [int 0,int 0,.sl 32 [] none],boo false])).imp
instance fnRMember {d:List Ent}{k:Bs}{xs:List AV}{id:Option Value}[hx:Ents xs d]:Ans Tryz.prog GL 119 [.sl 2 xs id,str k] (d.length<=2000) (.tup [prfA (memP d (fndAt d k) (fndIs d k)),boo (fndIs d k)]):=⟨fun hl=>by
 have h:=hx.out
 subst h
 refine qE Tryz.func119 rfl Tryz.ntmps119 rfl (fun _ hs=>?_)
 repeat' first|refine Vz ?_|intro _
 cases hb:fndIs d k
 ·repeat' first|refine Vz ?_|intro _
  refine reI ?_
  exact imp_zeroP
 ·repeat' first|refine Vz ?_|intro _
  refine reE ?_
  simp [outOf,memP,atP]⟩
instance fnPHolds {root:Hsh}{a b:Bs}{i m:Int}{p:List Hsh}{xs:List AV}{id:Option Value}[hx:Hshs xs p]:Ans Tryz.prog GL 64 [hA root,.agg 2 [str a,str b],.agg 3 [int i,int m,.sl 32 xs id]] (m<=9223372036854775807) (boo (holdsB root ⟨a,b⟩ ⟨i,m,p⟩)):=⟨fun hl=>by
 have h:=hx.out
 subst h
 refine qE Tryz.func64 rfl Tryz.ntmps64 rfl (fun _ hs=>?_)
 repeat' first|refine Vz ?_|intro _
 rw [holdsB]
 generalize foldH m i (leafH ⟨a,b⟩) p=o
 cases o
 ·repeat' (first|refine W ?_|refine op3 ?_|refine ob5 ?_|refine opE ?_|refine obE ?_|refine ob2 (fun _=>?_)|intro _)
  refine reE ?_
  rfl
 ·repeat' (first|refine W ?_|refine op3 ?_|refine ob5 ?_|refine opE ?_|refine obE ?_|refine ob2 (fun _=>?_)|intro _)
  refine reE ?_
  rfl⟩
instance fnRHolds {root:Hsh}{a b:Bs}{i m:Int}{p:List Hsh}{xs:List AV}{id:Option Value}[hx:Hshs xs p]:Ans Tryz.prog GL 66 [hA root,.agg 2 [str a,str b],.agg 3 [int i,int m,.sl 32 xs id]] (m<=9223372036854775807) (boo (holdsB root ⟨a,b⟩ ⟨i,m,p⟩)):=⟨fun hl=>by
 have h:=hx.out
 subst h
 refine qE Tryz.func66 rfl Tryz.ntmps66 rfl (fun _ hs=>?_)
 repeat' first|refine Vz ?_|intro _
 rw [holdsB]
 generalize foldH m i (leafH ⟨a,b⟩) p=o
 cases o
 ·repeat' (first|refine W ?_|refine op3 ?_|refine ob5 ?_|refine opE ?_|refine obE ?_|refine ob2 (fun _=>?_)|intro _)
  refine reE ?_
  rfl
 ·repeat' (first|refine W ?_|refine op3 ?_|refine ob5 ?_|refine opE ?_|refine obE ?_|refine ob2 (fun _=>?_)|intro _)
  refine reE ?_
  rfl⟩

theorem blt_ge {a b:Bs}:(!(blt a b || decide (a=b)))=blt b a:=by
 cases h1:blt a b
 ·by_cases h2:a=b
  ·subst h2
   simp [blt_irrefl]
  ·cases h3:blt b a
   ·exact absurd (blt_total h1 h3) h2
   ·simp [h2]
 ·simp [blt_asymm h1]
theorem miss2 {a k:Bs}{g:Nat}{T:TypeId}:Av.Spec Tryz.prog GL 162 [str a,ptr g] [.var g T (str k)] fun u m=>u=boo (blt a k)/\m=[.var g T (str k)]:=by
 refine qE Tryz.func162 rfl Tryz.ntmps162 rfl (fun _ hs=>?_)
 repeat' first|refine Vz ?_|intro _
 exact reK [.var g T (str k)] ⟨rfl,rfl⟩ slr
theorem miss3 {a k:Bs}{g:Nat}{T:TypeId}:Av.Spec Tryz.prog GL 163 [str a,ptr g] [.var g T (str k)] fun u m=>u=boo (blt k a)/\m=[.var g T (str k)]:=by
 refine qE Tryz.func163 rfl Tryz.ntmps163 rfl (fun _ hs=>?_)
 repeat' first|refine Vz ?_|intro _
 refine reK [.var g T (str k)] ⟨?_,rfl⟩ slr
 rw [<- blt_ge (a:=a)]
 rfl
theorem miss1 {f:FuncId}[FnB Tryz.prog f]{root:Hsh}{k:Bs}{G:Gp}{l:List Ent}{p:Prf}{gk g5 g3:Nat}{Tk:TypeId}{bes:Bs->Bool}(hb:∀ a,Av.Spec Tryz.prog GL f [str a,ptr gk] [.var gk Tk (str k)] fun u m=>u=boo (bes a)/\m=[.var gk Tk (str k)])(hn:p.m<=9223372036854775807) :
  Av.Spec Tryz.prog GL 161 [.sl 2 (l.map entA) none,prfA p,fnv f [.pointer (some ⟨gk,0,none⟩)],ptr g5,ptr g3] [.var g5 52 (gpA G),.var gk Tk (str k),.var g3 38 (hA root)]
   fun u m=>u=boo (sideB root G.n bes l p)/\m=[.var g5 52 (gpA G),.var gk Tk (str k),.var g3 38 (hA root)]:=by
 refine qE Tryz.func161 rfl Tryz.ntmps161 rfl (fun _ hs=>?_)
 rcases l with _|⟨x,_|⟨y,l⟩⟩
 ·repeat' first|refine Zz ?_|intro _
  exact reK [.var g5 52 (gpA G),.var gk Tk (str k),.var g3 38 (hA root)] ⟨rfl,rfl⟩ (List.sublist_cons_self _ _)
 ·repeat' first|refine Zz ?_|intro _
  apply obl_read [2];exact rfl;exact rfl;kernel_rfl;intro s' hs'
  refine al_on ?_
  refine al_callV (args:=[str x.key]) (cs:=[.pointer (some ⟨gk,0,none⟩)]) [.var gk Tk (str k)] _ (by rw [hs'];exact hb x.key) (fun u m1 hh=>?_) lpr
  obtain⟨rfl,rfl⟩:=hh
  exact al_nil (ae_got rfl rfl)
  cases hbe:bes x.key
  ·repeat' first|refine Zz ?_|intro _
   refine reK [.var g5 52 (gpA G),.var gk Tk (str k),.var g3 38 (hA root)] ⟨?_,rfl⟩ (List.sublist_cons_self _ _)
   simp [outOf,sideB,hbe]
  ·by_cases hpm:p.m=G.n
   ·repeat' first|refine Zz ?_|intro _
    rw [dT hpm]
    repeat' first|refine Vz ?_|intro _
    refine reK [.var g5 52 (gpA G),.var gk Tk (str k),.var g3 38 (hA root)] ⟨?_,rfl⟩ (List.sublist_cons_self _ _)
    simp only [outOf,sideB,hbe,hpm,decide_true,Bool.true_and]
    rw [<- hpm]
   ·repeat' first|refine Zz ?_|intro _
    rw [dZ hpm]
    repeat' first|refine Vz ?_|intro _
    refine reK [.var g5 52 (gpA G),.var gk Tk (str k),.var g3 38 (hA root)] ⟨?_,rfl⟩ (List.sublist_cons_self _ _)
    simp [outOf,sideB,hbe,hpm]
 ·repeat' first|refine Zz ?_|intro _
  refine reK [.var g5 52 (gpA G),.var gk Tk (str k),.var g3 38 (hA root)] ⟨?_,rfl⟩ (List.sublist_cons_self _ _)
  simp [outOf,sideB]

theorem fnd_at {l:List Ent}{i:Nat}(h:Srt l)(hi:i < l.length):fndAt l l[i].key=i/\fndIs l l[i].key=true:=by
 have h1:fndAt l l[i].key=i:=by
  refine fndAt_step hi (fun j hj=>?_) (blt_irrefl _)
  exact List.pairwise_iff_getElem.1 h j i (by omega) hi hj
 refine⟨h1,?_⟩
 rw [fndIs,h1,getD_at hi]
 simp [hi]
theorem memP_at {l:List Ent}{i:Nat}(h:Srt l)(hi:i < l.length):memP l (fndAt l l[i].key) (fndIs l l[i].key)=atP l i:=by
 obtain⟨h1,h2⟩:=fnd_at h hi
 rw [h1,h2]
 rfl
instance fnRAbsent {d:List Ent}{k:Bs}{xs:List AV}{id:Option Value}[hx:Ents xs d]:Ans Tryz.prog GL 120 [.sl 2 xs id,str k] (d.length<=2000/\Srt d) (.tup [gpA (absG d (fndAt d k) (fndIs d k)),boo (!fndIs d k)]):=⟨fun hpre=>by
 obtain⟨hl,hsr⟩:=hpre
 have h:=hx.out
 subst h
 have hm:(d.map entA).length=d.length:=llm _
 refine qE Tryz.func120 rfl Tryz.ntmps120 rfl (fun _ hs=>?_)
 repeat' first|refine Vz ?_|intro _
 cases hb:fndIs d k
 focus
  repeat' first|refine Vz ?_|intro _
  have hle:=fndAt_le d k
  generalize fndAt d k=n at *
  have e2:∀ n:Nat,(((n + 1:Nat):Int) - 1)=n:=fun n=>by omega
  by_cases h1:n < d.length
  all_goals
   rcases n with _|n
   focus
    repeat' first|refine Zz ?_|intro _
   rotate_left
   focus
    repeat' first|refine Zz ?_|intro _
    rw [e2]
    repeat' first|refine Zz ?_|intro _
    rw [e2]
    repeat' first|refine Zz ?_|intro _
    rw [memP_at hsr (show n < d.length by omega)]
   all_goals
    try rw [memP_at hsr h1]
    refine reI ?_
    simp only [outOf,hm,absG,atP,gpA,prfA,zeroP,Nat.lt_irrefl,Nat.zero_lt_succ,Nat.add_sub_cancel,h1,if_true,if_false,List.map_cons,List.map_nil,Bool.not_false,Bool.false_eq_true]
    try rw [getD_at (show n < d.length by omega)]
    try rw [getD_at h1]
    exact ImpR.imp
 focus
  repeat' first|refine Vz ?_|intro _
  refine reI ?_
  simp only [outOf,absG,gpA,prfA,if_true,zeroG,zeroP,List.map_nil,Bool.not_true]
  exact ImpR.imp⟩
theorem holds_bnd {root:Hsh}{x:Ent}{i m:Int}{p:List Hsh}(h:holdsB root x ⟨i,m,p⟩=true):0<=i/\i < m/\m<=2000:=by
 unfold holdsB foldH at h
 dsimp only at h
 split at h
 ·simp at h
 ·omega
theorem side_bnd {root:Hsh}{n i m:Int}{bes:Bs->Bool}{x:Ent}{l:List Ent}{p:List Hsh}(h:sideB root n bes (x::l) ⟨i,m,p⟩=true):0<=i/\i < n/\n<=2000:=by
 rcases l with _|⟨y,l⟩
 ·simp only [sideB,Bool.and_eq_true,decide_eq_true_eq] at h
  obtain⟨_,h1,h2⟩:=h
  have:=holds_bnd h2
  omega
 ·simp [sideB] at h
set_option maxHeartbeats 1000000 in
instance fnMissing {root:Hsh}{k:Bs}{n i m i2 m2:Int}{l r:List Ent}{p q:List Hsh}{xs ys zs ws:List AV}[hx:Ents xs l][hy:Ents ys r][hz:Hshs zs p][hw:Hshs ws q] :
  Ans Tryz.prog GL 67 [hA root,str k,.agg 9 [int n,.sl 2 xs none,.sl 2 ys none,.agg 3 [int i,int m,.sl 32 zs none],.agg 3 [int i2,int m2,.sl 32 ws none]]] (m<=9223372036854775807/\m2<=9223372036854775807) (boo (missB root k ⟨n,l,r,⟨i,m,p⟩,⟨i2,m2,q⟩⟩)):=⟨fun hpre=>by
 obtain⟨c1,c2⟩:=hpre
 have h1:=hx.out
 have h2:=hy.out
 have h3:=hz.out
 have h4:=hw.out
 subst h1 h2 h3 h4
 refine qE Tryz.func67 rfl Tryz.ntmps67 rfl (fun _ hs=>?_)
 repeat' first|refine Vz ?_|intro _
 rename_i g3 g4 g5
 refine al_makeFunc (vs:=[.pointer (some ⟨g5,0,none⟩),.pointer (some ⟨g3,0,none⟩)]) ?_
 repeat' first|refine Vz ?_|intro _
 refine al_makeFunc (vs:=[.pointer (some ⟨g4,0,none⟩)]) ?_
 repeat' first|refine Vz ?_|intro _
 refine al_callV (args:=[.sl 2 (l.map entA) none,prfA ⟨i,m,p⟩,fnv 162 [.pointer (some ⟨g4,0,none⟩)]]) (cs:=[.pointer (some ⟨g5,0,none⟩),.pointer (some ⟨g3,0,none⟩)])
  [.var g5 52 (gpA ⟨n,l,r,⟨i,m,p⟩,⟨i2,m2,q⟩⟩),.var g4 9 (str k),.var g3 38 (hA root)] [] (by rw [hs];exact miss1 (bes:=fun a=>blt a k) (fun a=>miss2) c1) (fun u m1 hh=>?_) lpr
 obtain⟨rfl,rfl⟩:=hh
 unfold missB
 dsimp only
 cases hs1:sideB root n (fun a=>blt a k) l ⟨i,m,p⟩
 ·repeat' first|refine Zz ?_|intro _
  refine reE ?_
  rfl
 ·repeat' first|refine Vz ?_|intro _
  refine al_makeFunc (vs:=[.pointer (some ⟨g4,0,none⟩)]) ?_
  refine al_on ?_
  refine al_callV (args:=[.sl 2 (r.map entA) none,prfA ⟨i2,m2,q⟩,fnv 163 [.pointer (some ⟨g4,0,none⟩)]]) (cs:=[.pointer (some ⟨g5,0,none⟩),.pointer (some ⟨g3,0,none⟩)])
   [.var g5 52 (gpA ⟨n,l,r,⟨i,m,p⟩,⟨i2,m2,q⟩⟩),.var g4 9 (str k),.var g3 38 (hA root)] [] (by rw [hs];exact miss1 (bes:=fun a=>blt k a) (fun a=>miss3) c2) (fun u m1 hh=>?_) lpr
  obtain⟨rfl,rfl⟩:=hh
  cases hs2:sideB root n (fun a=>blt k a) r ⟨i2,m2,q⟩
  ·repeat' first|refine Zz ?_|intro _
   refine reE ?_
   rfl
  ·have h0:((([]:List Ent)).map entA).length=0:=rfl
   rcases l with _|⟨x,l⟩
   ·rcases r with _|⟨y,r⟩
    ·by_cases hn:n=0
     ·repeat' first|refine Zz ?_|intro _
      rw [dT hn]
      repeat' (first|refine W ?_|refine op3 ?_|refine ob5 ?_|refine opE ?_|refine obE ?_|refine ob2 (fun _=>?_)|intro _)
      apply obl_read [];exact rfl;exact rfl;kernel_rfl;intro _ _
      refine al_on ?_
      refine al_callI [.agg 1 [.sl 2 [] none]] (hp:=Nat.zero_le _) ?_
      exact al_nil (ae_got rfl rfl)
      repeat' (first|refine W ?_|refine op3 ?_|refine ob5 ?_|refine opE ?_|refine obE ?_|refine ob2 (fun _=>?_)|intro _)
      refine reE ?_
      simp [outOf,hn,endB]
     ·repeat' first|refine Zz ?_|intro _
      rw [dZ hn]
      repeat' (first|refine W ?_|refine op3 ?_|refine ob5 ?_|refine opE ?_|refine obE ?_|refine ob2 (fun _=>?_)|intro _)
      refine reE ?_
      simp [outOf,hn,endB]
    ·have hmr:((y::r).map entA).length=r.length + 1:=by simp
     repeat' first|refine Zz ?_|intro _
     refine reE ?_
     rfl
   ·have hml:((x::l).map entA).length=l.length + 1:=by simp
    obtain⟨c3,c4,c5⟩:=side_bnd hs1
    rcases r with _|⟨y,r⟩
    ·repeat' first|refine Zz ?_|intro _
     refine reE ?_
     rfl
    ·have hmr:((y::r).map entA).length=r.length + 1:=by simp
     repeat' first|refine Zz ?_|intro _
     refine reE ?_
     rfl⟩

set_option maxHeartbeats 2000000 in
instance fnRMissing {root:Hsh}{k:Bs}{n i m i2 m2:Int}{l r:List Ent}{p q:List Hsh}{xs ys zs ws:List AV}[hx:Ents xs l][hy:Ents ys r][hz:Hshs zs p][hw:Hshs ws q] :
  Ans Tryz.prog GL 68 [hA root,str k,.agg 9 [int n,.sl 2 xs none,.sl 2 ys none,.agg 3 [int i,int m,.sl 32 zs none],.agg 3 [int i2,int m2,.sl 32 ws none]]] (m<=9223372036854775807/\m2<=9223372036854775807) (boo (missB root k ⟨n,l,r,⟨i,m,p⟩,⟨i2,m2,q⟩⟩)):=⟨fun hpre=>by
 obtain⟨c1,c2⟩:=hpre
 have h1:=hx.out
 have h2:=hy.out
 have h3:=hz.out
 have h4:=hw.out
 subst h1 h2 h3 h4
 refine qE Tryz.func68 rfl Tryz.ntmps68 rfl (fun _ hs=>?_)
 unfold missB
 dsimp only
 have hcons1:∀ x:Ent,([x].map entA).length=1:=fun x=>rfl
 have hcons2:∀ (x y:Ent) (l:List Ent),((x::y::l).map entA).length=l.length + 2:=fun x y l=>by simp
 have h0:((([]:List Ent)).map entA).length=0:=rfl
 rcases l with _|⟨⟨xk,xv⟩,_|⟨x2,l⟩⟩
 ·rcases r with _|⟨⟨yk,yv⟩,_|⟨y2,r⟩⟩
  ·by_cases hn:n=0
   ·repeat' first|refine Zz ?_|intro _
    rw [dT hn]
    repeat' (first|refine W ?_|refine op3 ?_|refine ob5 ?_|refine opE ?_|refine obE ?_|refine ob2 (fun _=>?_)|intro _)
    apply obl_read [];exact rfl;exact rfl;kernel_rfl;intro _ _
    refine al_on ?_
    refine al_callI [.sl 2 [] none] (hp:=Nat.zero_le _) ?_
    exact al_nil (ae_got rfl rfl)
    repeat' (first|refine W ?_|refine op3 ?_|refine ob5 ?_|refine opE ?_|refine obE ?_|refine ob2 (fun _=>?_)|intro _)
    refine reE ?_
    simp [outOf,hn,endB,sideB]
   ·repeat' first|refine Zz ?_|intro _
    rw [dZ hn]
    repeat' (first|refine W ?_|refine op3 ?_|refine ob5 ?_|refine opE ?_|refine obE ?_|refine ob2 (fun _=>?_)|intro _)
    refine reE ?_
    simp [outOf,hn,endB,sideB]
  ·have hl1:=hcons1 ⟨yk,yv⟩
   repeat' first|refine Zz ?_|intro _
   cases hH2:holdsB root ⟨yk,yv⟩ ⟨i2,m2,q⟩
   focus
    repeat' first|refine Zz ?_|intro _
    refine reE ?_
    simp [outOf,sideB,hH2]
   by_cases hq2:m2=n
   rotate_left
   focus
    repeat' first|refine Zz ?_|intro _
    refine reE ?_
    simp [outOf,sideB,hq2]
   repeat' first|refine Zz ?_|intro _
   have hge:(blt yk k || decide (yk=k))=!blt k yk:=by rw [<- blt_ge (a:=yk) (b:=k),Bool.not_not]
   rw [hge]
   cases hk2:blt k yk
   focus
    repeat' first|refine Zz ?_|intro _
    refine reE ?_
    simp [outOf,sideB,hk2]
   repeat' first|refine Zz ?_|intro _
   refine reE ?_
   rw [hq2] at hH2
   simp [outOf,sideB,endB,hH2,hq2,hk2]
  ·have hl1:=hcons2 ⟨yk,yv⟩ y2 r
   repeat' first|refine Zz ?_|intro _
   refine reE ?_
   simp [outOf,sideB]
 ·have hl3:=hcons1 ⟨xk,xv⟩
  rcases r with _|⟨⟨yk,yv⟩,_|⟨y2,r⟩⟩
  ·repeat' first|refine Zz ?_|intro _
   cases hH1:holdsB root ⟨xk,xv⟩ ⟨i,m,p⟩
   focus
    repeat' first|refine Zz ?_|intro _
    refine reE ?_
    simp [outOf,sideB,hH1]
   have hb1:=holds_bnd hH1
   by_cases hq1:m=n
   rotate_left
   focus
    repeat' first|refine Zz ?_|intro _
    refine reE ?_
    simp [outOf,sideB,hq1]
   repeat' first|refine Zz ?_|intro _
   cases hk1:blt xk k
   focus
    repeat' first|refine Zz ?_|intro _
    refine reE ?_
    simp [outOf,sideB,hk1]
   repeat' first|refine Zz ?_|intro _
   refine reE ?_
   rw [hq1] at hH1
   simp [outOf,sideB,endB,hH1,hq1,hk1]
  ·have hl1:=hcons1 ⟨yk,yv⟩
   repeat' first|refine Zz ?_|intro _
   cases hH1:holdsB root ⟨xk,xv⟩ ⟨i,m,p⟩
   focus
    repeat' first|refine Zz ?_|intro _
    refine reE ?_
    simp [outOf,sideB,hH1]
   have hb1:=holds_bnd hH1
   by_cases hq1:m=n
   rotate_left
   focus
    repeat' first|refine Zz ?_|intro _
    refine reE ?_
    simp [outOf,sideB,hq1]
   repeat' first|refine Zz ?_|intro _
   cases hk1:blt xk k
   focus
    repeat' first|refine Zz ?_|intro _
    refine reE ?_
    simp [outOf,sideB,hk1]
   repeat' first|refine Zz ?_|intro _
   cases hH2:holdsB root ⟨yk,yv⟩ ⟨i2,m2,q⟩
   focus
    repeat' first|refine Zz ?_|intro _
    refine reE ?_
    simp [outOf,sideB,hH2]
   by_cases hq2:m2=n
   rotate_left
   focus
    repeat' first|refine Zz ?_|intro _
    refine reE ?_
    simp [outOf,sideB,hq2]
   repeat' first|refine Zz ?_|intro _
   have hge:(blt yk k || decide (yk=k))=!blt k yk:=by rw [<- blt_ge (a:=yk) (b:=k),Bool.not_not]
   rw [hge]
   cases hk2:blt k yk
   focus
    repeat' first|refine Zz ?_|intro _
    refine reE ?_
    simp [outOf,sideB,hk2]
   repeat' first|refine Zz ?_|intro _
   refine reE ?_
   rw [hq1] at hH1
   rw [hq2] at hH2
   simp [outOf,sideB,endB,hH1,hq1,hk1,hH2,hq2,hk2]
  ·have hl1:=hcons2 ⟨yk,yv⟩ y2 r
   repeat' first|refine Zz ?_|intro _
   refine reE ?_
   simp [outOf,sideB]
 ·have hl1:=hcons2 ⟨xk,xv⟩ x2 l
  repeat' first|refine Zz ?_|intro _
  refine reE ?_
  simp [outOf,sideB]⟩

end Go.Proofs.YtlmcongmglfaeaaGreatDoor

namespace Av
open Go Go.RowKit Tw
section
variable {P:Program} {N:Nat} {ops:Array Oper} {Q:Exit->Act->World->Prop} {rest:List Oper} {s:Base} {e:Env} {m:List Piece} {d:Nat} {ty:TypeId} {pos:String} {af:Array Edge}
end
end Av
namespace Go.Proofs.YtlmcongmglfaeaaGreatDoor
open Go Go.RowKit Tw Av
end Go.Proofs.YtlmcongmglfaeaaGreatDoor

namespace Go.Proofs.YtlmcongmglfaeaaGreatDoor
open Go Go.RowKit Tw Av


end Go.Proofs.YtlmcongmglfaeaaGreatDoor

namespace Av
open Go Go.RowKit Tw
section
variable {P:Program} {N:Nat} {s:Base} {e:Env} {m:List Piece}
end
end Av
namespace Go.Proofs.YtlmcongmglfaeaaGreatDoor
open Go Go.RowKit Tw Av
instance {k:Nat}:ImpT (.lit (.slice none 0 0)) (.sl k [] (some (.slice none 0 0))):=⟨ImpC.nilS⟩
end Go.Proofs.YtlmcongmglfaeaaGreatDoor

namespace Go.Proofs.YtlmcongmglfaeaaGreatDoor
open Go Go.RowKit Tw Av

def prfB (p:Prf):Bs:=tlvI 105 p.a++tlvI 109 p.m++tlvA 112 (p.p.map fun h=>h.l)
def sideT (l:List Ent):List Bs:=l.flatMap fun x=>[x.key,x.val]
def sidB (l:List Ent)(p:Prf):Bs:=tlvA 101 (sideT l)++tlvT 80 (prfB p)

instance {l:List Ent}{p:Prf}:LenLe (sidB l p) 33554438:=⟨by
 have h1:=tlvT_len 101 ((sideT l).flatMap (tlvT 101))
 have h2:=tlvT_len 80 (prfB p)
 have e:sidB l p=tlvT 101 ((sideT l).flatMap (tlvT 101))++tlvT 80 (prfB p):=rfl
 rw [e,lla]
 omega⟩



class RgSl (a:AV)(l:List Ent):Prop where
 imp:ImpT a (.sl 2 (l.map entA) none)
instance : RgSl (.lit (.slice none 0 0)) [] := ⟨(inferInstance : ImpT _ (.sl 2 [] none))⟩
instance {k v:Bs}:RgSl (.sl 2 [.agg 2 [str k,str v]] none) [⟨k,v⟩]:=⟨(inferInstance:ImpT _ (.sl 2 [.agg 2 [str k,str v]] none))⟩



def hshA (x:H8)(buf:Bs)(n:Nat):AV:=.agg 74 ((hsh x buf n).map fun v=>.lit (id v))
theorem hsh_len74 {x:H8}{buf:Bs}{n:Nat}(hb:buf.length=64):(hsh x buf n).length=74:=hsw_len _ _ _ rfl hb
theorem hshA_rc {ok:Ok}{w:World}{x:H8}{buf:Bs}{n:Nat}(hb:buf.length=64):RC ok w (hshA x buf n) (hsh x buf n):=by
 unfold hshA
 rw [RC]
 refine⟨hsh_len74 hb,?_⟩
 have h1:∀ v ∈ hsh x buf n,v.oneCell'=true:=fun v hv=>hsh_good x.words buf n v (by rw [(hsh_units _ _ _).fl];exact hv)
 generalize hsh x buf n=l at h1
 induction l with
 | nil=>rw [List.map_nil,RCs]
 | cons a l ih=>
  rw [List.map_cons,RCs]
  exact⟨[a],l,rfl,by rw [RC];exact⟨rfl,h1 a (by simp)⟩,ih fun v hv=>h1 v (by simp [hv])⟩
theorem hshA_cs {ok:Ok}{w:World}{x:H8}{buf:Bs}{n:Nat}{cs:List Value}(h:RC ok w (hshA x buf n) cs):cs=fl (hsh x buf n):=by
 unfold hshA at h
 rw [RC] at h
 rw [(hsh_units _ _ _).fl,rcs_lits h.2]
 simp
theorem hnew:Av.Spec Tryz.prog GL 330 [] [] fun u m'=>∃ g,u=ptr g/\m'=[.var g 356 (hshA h0 (zeros 64) 0)]:=
 spec_new (vs:=hsh h0 (zeros 64) 0) (fun ok w=>by rw [(hsh_units _ _ _).fl];exact hshA_rc rfl) fun ok w cargs hg hv=>by
  obtain rfl:=(show cargs=[] from hv)
  exact new_spec w (glo_of hg)
def Hashed (g:Nat)(M:Bs)(m:List Av.Piece):Prop:=∃ x buf,HS M x buf/\m=[.var g 356 (hshA x buf M.length)]
theorem glob_ne {ok:Ok}{w:World}{g:Nat}(h:Glob GL ok w)(hn:∀ j,¬ ok g j):g≠1/\g≠2:=by
 refine⟨?_,?_⟩
 ·rintro rfl
  obtain⟨cs,h1,h2⟩:=h _ (by unfold GL;exact List.mem_cons_self)
  rw [RC] at h2
  have h3:=rcs_lits h2.2
  subst h3
  exact hn _ (h1 0 _ (by simp [H8.words];rfl)).2
 ·rintro rfl
  obtain⟨cs,h1,h2⟩:=h (2,_) (by unfold GL;exact List.mem_cons_of_mem _ List.mem_cons_self)
  rw [RC] at h2
  have h3:=rcs_lits h2.2
  subst h3
  exact hn _ (h1 0 _ (by simp [kTab];rfl)).2
theorem hwrite {g:Nat}{M s:Bs}{x:H8}{buf:Bs}(hH:HS M x buf)(hl:M.length + s.length<=4611686018427387904):Av.Spec Tryz.prog GL 331 [ptr g,str s] [.var g 356 (hshA x buf M.length)] fun u m'=>u=.tup []/\Hashed g (M++s) m':=by
 refine (spec_mod (R:=fun v=>∃ x' buf',HS (M++s) x' buf'/\v=hshA x' buf' (M++s).length) (fun ok w cs h=>hshA_cs h) fun ok w cargs hg hn hv hb=>?_).mono fun u m' hh=>?_
 ·obtain⟨u1,us,rfl,h1,rfl⟩:=hv
  rw [RV0.lit h1]
  obtain⟨n1,n2⟩:=glob_ne hg hn
  refine (write_spec w g M x buf s (glo_of hg) n1 n2 hb hH hl).mono fun v w' hh=>?_
  obtain⟨e,x',buf',h2,h3⟩:=hh
  exact⟨e,_,_,⟨x',buf',h2,rfl⟩,h3,fun ok w=>by rw [(hsh_units _ _ _).fl];exact hshA_rc h2.len⟩
 ·obtain⟨e,v',⟨x',buf',h2,rfl⟩,e2⟩:=hh
  exact⟨e,x',buf',h2,e2⟩
theorem hsum {g:Nat}{M:Bs}{x:H8}{buf:Bs}(hH:HS M x buf)(hl:M.length<=1152921504606846976):Av.Spec Tryz.prog GL 332 [ptr g] [.var g 356 (hshA x buf M.length)] fun u m'=>u=hA (shaH M)/\m'=[.var g 356 (hshA x buf M.length)]:=
 spec_get (fun ok w cs h=>hshA_cs h) fun ok w cargs hg hv hb=>by
  obtain rfl:=(show cargs=[] from hv)
  exact (sum_spec w g M x buf (glo_of hg) hb hH hl).mono fun v w' hh=>⟨fun ok w=>by rw [hh.1];exact RV_hA _,hh.2⟩

theorem keyB_len (k:Bs):(keyB k).length=64:=by rw [keyB,copyB_len];simp [zeros]
theorem ofH1 (a:Bs):ofH [a]=shaH a:=by simp [ofH]
theorem ofH2 (a b:Bs):ofH [a,b]=shaH (a++b):=by simp [ofH]
abbrev kbA (l:Bs):AV:=.agg 64 (l.map u8A)
instance fnSBlock {k:Bs}:Ans Tryz.prog GL 385 [str k] (k.length<=1000000) (kbA (keyB k)):=⟨fun hk=>by
 refine qE Tryz.func385 rfl Tryz.ntmps385 rfl (fun _ hs=>?_)
 repeat' first|refine Vz ?_|intro _
 refine ac_cond (fun h1=>?_) (fun h1=>?_)
 ·have:LenLe k 1000000:=⟨hk⟩
  repeat' first|refine Vz ?_|intro _
  rw [ofH1]
  refine al_copyS (l:=zeros 64) (a:=(shaH k).l) rfl ?_
  repeat' first|refine Vz ?_|intro _
  refine reE ?_
  rw [keyB,if_pos (by omega)]
  rfl
 ·repeat' first|refine Vz ?_|intro _
  refine al_copyS (l:=zeros 64) (a:=k) rfl ?_
  repeat' first|refine Vz ?_|intro _
  refine reE ?_
  rw [keyB,if_neg (by omega)]
  rfl⟩
theorem put1 {g:Nat}{a b:UInt8}{T:TypeId}:Av.Spec Tryz.prog GL 395 [u8A a,ptr g] [.var g T (u8A b)] fun u m=>u=u8A (a ^^^ b)/\m=[.var g T (u8A b)]:=by
 refine qE Tryz.func395 rfl Tryz.ntmps395 rfl (fun _ hs=>?_)
 repeat' first|refine Vz ?_|intro _
 exact reK [.var g T (u8A b)] ⟨rfl,rfl⟩ slr
theorem xor_next {l:Bs}{b:UInt8}{i:Nat}(h:i < l.length):(xorB b (l.take i)++l.drop i).set i (l[i] ^^^ b)=xorB b (l.take (i + 1))++l.drop (i + 1):=by
 have h1:(xorB b (l.take i)).length=i:=by simp [xorB];omega
 rw [List.set_append,if_neg (by omega),h1,Nat.sub_self,List.drop_eq_getElem_cons h,List.set_cons_zero,List.take_succ_eq_append_getElem h,xorB,xorB,List.map_append,laa]
 rfl
theorem sput {l:Bs}(hl:l.length=64)(b:UInt8)(B:Int)(hB:B=b.toNat):SpecE Tryz.prog GL 386 [kbA l,.lit (.int .u8 B)] (str (xorB b l)):=by
 subst hB
 refine qE Tryz.func386 rfl Tryz.ntmps386 rfl (fun _ hs=>?_)
 repeat' first|refine Vz ?_|intro _
 rename_i g2 g3
 refine al_makeFunc (vs:=[.pointer (some ⟨g3,0,none⟩)]) ?_
 repeat' first|refine Vz ?_|intro _
 refine ac_loop (α:=Nat) (fun i=>[(2,ptr g2),(5,fnv 395 [.pointer (some ⟨g3,0,none⟩)]),(9,kbA l),(10,int i)])
  (fun i=>[.var g3 5 (u8A b),.var g2 354 (kbA (xorB b (l.take i)++l.drop i))]) (fun i=>i<=64) (fun i=>64 - i) 0 ⟨rfl,rfl,rfl,rfl,trivial⟩ ?_ (Nat.zero_le _) ?_
 ·exact sbl
 intro i hi
 have hlen:(xorB b (l.take i)++l.drop i).length=64:=by simp [xorB];omega
 repeat' first|refine Vz ?_|intro _
 refine ac_cond (fun hlt=>?_) (fun hlt=>?_)
 ·have hil:i < l.length:=by omega
  repeat' first|refine Vz ?_|intro _
  refine al_index (ps:=l.map u8A) (u:=u8A l[i]) i ?_ rfl (by omega) (by simp [hil]) (by intro p hp;obtain⟨c,_,rfl⟩:=List.mem_map.1 hp;rfl) rfl
  repeat' first|refine Vz ?_|intro _
  refine al_callV (args:=[u8A l[i]]) (cs:=[.pointer (some ⟨g3,0,none⟩)]) [.var g3 5 (u8A b)] _ (by rw [hs];exact put1) (fun u m1 hh=>?_) lpr
  obtain⟨rfl,rfl⟩:=hh
  repeat' first|refine Vz ?_|intro _
  refine al_idxA i ?_
  refine al_storeE (j:=i) (ps:=(xorB b (l.take i)++l.drop i).map u8A) (by simp only [List.length_map];omega) ?_
  repeat' first|refine Vz ?_|intro _
  rw [show ((xorB b (l.take i)++l.drop i).map u8A).set i (u8A (l[i] ^^^ b))=((xorB b (l.take i)++l.drop i).set i (l[i] ^^^ b)).map u8A by rw [List.map_set],xor_next hil]
  refine ae_round (i + 1) ⟨rfl,rfl,rfl,rfl,trivial⟩ ?_ (by omega) (by omega)
  exact sbl
 ·obtain rfl:i=64:=by omega
  rw [List.take_of_length_le (by omega),List.drop_of_length_le (by omega),List.append_nil]
  repeat' first|refine Vz ?_|intro _
  refine reE ?_
  rfl
theorem ImpC.one {n:Nat}{ps:List AV}:ImpC (.agg n [.agg n ps]) (.agg n ps):=fun ok w cs h=>by
 rw [RC] at h
 obtain⟨h1,h2⟩:=h
 rw [RCs] at h2
 obtain⟨c1,c2,rfl,h3,h4⟩:=h2
 rw [RCs] at h4
 subst h4
 rwa [List.append_nil]
theorem snew {k:Bs}(hk:k.length<=1000000):Av.Spec Tryz.prog GL 369 [str k] [] fun u m=>∃ g,u=ptr g/\m=[.var g 374 (kbA (keyB k))]:=by
 refine qE Tryz.func369 rfl Tryz.ntmps369 rfl (fun _ hs=>?_)
 repeat' first|refine Vz ?_|intro _
 rename_i g
 refine ae_asV (g:=g) (v':=kbA (keyB k)) ImpC.one ?_
 exact reK [.var g 374 (kbA (keyB k))] ⟨g,rfl,rfl⟩ slr
theorem xorB_len (b:UInt8)(l:Bs):(xorB b l).length=l.length:=llm _
theorem flat_next {l:List Bs}{i:Nat}(h:i < l.length):(l.take (i + 1)).flatten=(l.take i).flatten++l[i]:=by
 rw [List.take_succ_eq_append_getElem h,List.flatten_append]
 simp
theorem flat_le {l:List Bs}(i:Nat):(l.take i).flatten.length<=l.flatten.length:=by
 have h:=congrArg (fun q=>(List.flatten q).length) (List.take_append_drop i l)
 simp only [List.flatten_append,List.length_append] at h
 omega
theorem sseal {g:Nat}{kb:Bs}{l:List Bs}{id:Option Value}(hk:kb.length=64)(hl:l.flatten.length<=1000000000000)(hn:l.length<=1000000000000):Av.Spec Tryz.prog GL 370 [ptr g,.sl 1 (l.map str) id] [.var g 374 (kbA kb)] fun u m=>u=hA (shaH (xorB 92 kb++(shaH (xorB 54 kb++l.flatten)).l))/\m=[]:=by
 have hlm:(l.map str).length=l.length:=llm _
 refine qE Tryz.func370 rfl Tryz.ntmps370 rfl (fun _ hs=>?_)
 repeat' first|refine Vz ?_|intro _
 refine al_callK [] _ (by rw [hs];exact hnew) (fun u m1 hh=>?_) lpr
 obtain⟨gh,rfl,rfl⟩:=hh
 repeat' first|refine Vz ?_|intro _
 refine al_callK [] _ (by rw [hs];exact sput hk 54 54 rfl) (fun u m1 hh=>?_) lpr
 obtain⟨rfl,rfl⟩:=hh
 refine al_callK [.var gh 356 (hshA h0 (zeros 64) 0)] _ (by rw [hs];exact hwrite (M:=[]) (s:=xorB 54 kb) HS.nil (by simp [xorB_len];omega)) (fun u m1 hh=>?_) lpr
 obtain⟨rfl,x0,b0,hH0,rfl⟩:=hh
 rw [List.nil_append] at hH0 ⊢
 repeat' first|refine Vz ?_|intro _
 rename_i g4 g5
 refine ac_loop (α:=Nat × H8 × Bs) (fun q=>[(4,ptr g4),(5,ptr g5),(6,ptr gh),(20,.sl 1 (l.map str) id),(21,int (l.map str).length),(22,int q.1)])
  (fun q=>[.var gh 356 (hshA q.2.1 q.2.2 (xorB 54 kb++(l.take q.1).flatten).length),.var g5 354 (kbA kb),.var g4 38 (hA zeroH)]) (fun q=>q.1<=l.length/\HS (xorB 54 kb++(l.take q.1).flatten) q.2.1 q.2.2) (fun q=>l.length - q.1) (0,x0,b0) ⟨rfl,rfl,rfl,rfl,rfl,rfl,trivial⟩ ?_ ⟨Nat.zero_le _,by simpa using hH0⟩ ?_
 ·dsimp only
  rw [List.take_zero,List.flatten_nil,List.append_nil]
  exact sbl
 rintro⟨i,x,b⟩ ⟨hi,hH⟩
 dsimp only at hi hH ⊢
 repeat' first|refine Vz ?_|intro _
 have hle:=flat_le (l:=l) i
 refine ac_cond (fun hlt=>?_) (fun hlt=>?_)
 ·have hil:i < l.length:=by omega
  have hle2:=flat_le (l:=l) (i + 1)
  have hfn:=flat_next hil
  rw [hfn,lla] at hle2
  repeat' first|refine Vz ?_|intro _
  refine al_callK [.var gh 356 (hshA x b (xorB 54 kb++(l.take i).flatten).length)] _ (by rw [hs];exact hwrite (s:=l[i]) hH (by rw [lla,xorB_len];omega)) (fun u m1 hh=>?_) lpr
  obtain⟨rfl,x',b',hH',rfl⟩:=hh
  rw [laa,<- hfn] at hH' ⊢
  repeat' first|refine Vz ?_|intro _
  refine ae_round (i + 1,x',b') ⟨rfl,rfl,rfl,rfl,rfl,rfl,trivial⟩ ?_ ⟨hil,hH'⟩ (by dsimp only;omega)
  exact sbl
 ·obtain rfl:i=l.length:=by omega
  rw [List.take_length] at hH ⊢
  repeat' first|refine Vz ?_|intro _
  refine al_callK [] _ (by rw [hs];exact sput hk 92 92 rfl) (fun u m1 hh=>?_) lpr
  obtain⟨rfl,rfl⟩:=hh
  repeat' first|refine Vz ?_|intro _
  refine al_callK [.var gh 356 (hshA x b (xorB 54 kb++l.flatten).length)] _ (by rw [hs];exact hsum hH (by rw [lla,xorB_len];omega)) (fun u m1 hh=>?_) lpr
  obtain⟨rfl,rfl⟩:=hh
  have:LenLe (xorB 92 kb) 64:=⟨by rw [xorB_len];omega⟩
  repeat' first|refine Vz ?_|intro _
  rw [ofH2]
  repeat' first|refine Vz ?_|intro _
  exact reK [] ⟨rfl,rfl⟩ (List.nil_sublist _)
instance fnSeal {k s:Bs}:Ans Tryz.prog GL 348 [str k,str s] (k.length<=1000000/\s.length<=1000000000) (hA (sealH k s)):=⟨fun hp=>by
 obtain⟨hk,hsl⟩:=hp
 refine qE Tryz.func348 rfl Tryz.ntmps348 rfl (fun _ hs=>?_)
 repeat' first|refine Vz ?_|intro _
 refine al_callK [] _ (by rw [hs];exact snew hk) (fun u m1 hh=>?_) lpr
 obtain⟨g,rfl,rfl⟩:=hh
 repeat' first|refine Vz ?_|intro _
 refine al_callK [.var g 374 (kbA (keyB k))] _ (by rw [hs];exact sseal (l:=[s]) (id:=none) (keyB_len k) (by simpa using by omega) (by simp)) (fun u m1 hh=>?_) lpr
 obtain⟨rfl,rfl⟩:=hh
 repeat' first|refine Vz ?_|intro _
 refine reE ?_
 rw [sealH]
 simp [outOf]⟩
end Go.Proofs.YtlmcongmglfaeaaGreatDoor
