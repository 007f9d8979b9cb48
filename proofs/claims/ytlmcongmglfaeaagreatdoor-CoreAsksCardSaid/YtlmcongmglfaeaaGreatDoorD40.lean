/- coins that go, walked: Send, Recv, Refund of both -/
import Derived.Test.YtlmcongmglfaeaaGreatDoorD24
import Derived.Test.YtlmcongmglfaeaaGreatDoorD38
import Derived.Test.YtlmcongmglfaeaaGreatDoorD39
namespace Go.Proofs.YtlmcongmglfaeaaGreatDoor
open Go Go.RowKit Tw Av
def Does (f:FuncId)(cs:List Value)(m:List Av.Piece)(R:List Ent->List Ent × Int):Prop:=∀ d,DOk d->Av.Spec Tryz.prog GL f (dA d::cs.map .lit) m fun u m'=>u=.tup [dA (R d).1,int (R d).2]/\m'=m
theorem more_spec {k:Bs}{n:Wd}:Av.Spec Tryz.prog GL 287 [str k,widA n] [] fun u m=>∃ g1 g2,u=fnv 345 [.pointer (some ⟨g1,0,none⟩),.pointer (some ⟨g2,0,none⟩)]/\m=[.var g2 43 (widA n),.var g1 9 (str k)]:=by
 refine qE Tryz.func287 rfl Tryz.ntmps287 rfl (fun _ hs=>?_)
 repeat' first|refine Vz ?_|intro _
 rename_i g1 g2
 refine al_makeFunc (vs:=[.pointer (some ⟨g1,0,none⟩),.pointer (some ⟨g2,0,none⟩)]) ?_
 repeat' first|refine Vz ?_|intro _
 exact reK _ ⟨g1,g2,rfl,rfl⟩ slr
theorem less_spec {k:Bs}{n:Wd}:Av.Spec Tryz.prog GL 290 [str k,widA n] [] fun u m=>∃ g1 g2,u=fnv 346 [.pointer (some ⟨g1,0,none⟩),.pointer (some ⟨g2,0,none⟩)]/\m=[.var g2 43 (widA n),.var g1 9 (str k)]:=by
 refine qE Tryz.func290 rfl Tryz.ntmps290 rfl (fun _ hs=>?_)
 repeat' first|refine Vz ?_|intro _
 rename_i g1 g2
 refine al_makeFunc (vs:=[.pointer (some ⟨g1,0,none⟩),.pointer (some ⟨g2,0,none⟩)]) ?_
 repeat' first|refine Vz ?_|intro _
 exact reK _ ⟨g1,g2,rfl,rfl⟩ slr
theorem dnil_imp (n:Int):Imp (outOf [.agg 1 [.lit (.slice none 0 0)],int n]) (.tup [dA [],int n]):=(inferInstance:ImpR (.tup [.agg 1 [.lit (.slice none 0 0)],int n]) (.tup [.agg 1 [.sl 2 [] none],int n])).imp
attribute [local irreducible] wIs
set_option maxHeartbeats 1000000 in
theorem more_does {k:Bs}{n:Wd}{g1 g2:Nat}:Does 345 [.pointer (some ⟨g1,0,none⟩),.pointer (some ⟨g2,0,none⟩)] [.var g2 43 (widA n),.var g1 9 (str k)] (moreR k n):=fun d hd=>by
 show Av.Spec _ _ _ [dA d,ptr g1,ptr g2] _ _
 refine qE Tryz.func345 rfl Tryz.ntmps345 rfl (fun _ hs=>?_)
 repeat' first|refine Zz ?_|intro _
 unfold moreR
 cases h:wIs ((getW d k).n + n.n)
 ·rw [if_neg (by decide)]
  repeat' first|refine Zz ?_|intro _
  refine reIKm _ _ (dnil_imp _) ⟨rfl,rfl⟩ ?_
  exact sbl
 ·rw [if_pos rfl]
  repeat' first|refine Zz ?_|intro _
  refine reIKm _ _ (Imp.of_eq ?_) ⟨rfl,rfl⟩ ?_
  ·rw [wOf_n (wIs_t h)]
   rfl
  ·exact sbl
set_option maxHeartbeats 1000000 in
theorem less_does {k:Bs}{n:Wd}{g1 g2:Nat}:Does 346 [.pointer (some ⟨g1,0,none⟩),.pointer (some ⟨g2,0,none⟩)] [.var g2 43 (widA n),.var g1 9 (str k)] (lessR k n):=fun d hd=>by
 show Av.Spec _ _ _ [dA d,ptr g1,ptr g2] _ _
 have hw:(wOf ((getW d k).n - n.n)).n=(getW d k).n - n.n:=wOf_n (Nat.lt_of_le_of_lt (Nat.sub_le _ _) (getW d k).lt)
 refine qE Tryz.func346 rfl Tryz.ntmps346 rfl (fun _ hs=>?_)
 repeat' first|refine Zz ?_|intro _
 unfold lessR
 by_cases h:(getW d k).n < n.n
 ·rw [if_pos h,dZ (Nat.not_le.2 h)]
  repeat' first|refine Zz ?_|intro _
  refine reIKm _ _ (dnil_imp _) ⟨rfl,rfl⟩ ?_
  exact sbl
 rw [if_neg h,dT (Nat.not_lt.1 h)]
 repeat' first|refine Zz ?_|intro _
 rw [hw]
 by_cases h2:(getW d k).n=n.n
 ·rw [if_pos h2,dT (show (getW d k).n - n.n=0 by omega)]
  repeat' first|refine Zz ?_|intro _
  refine reIKm _ _ (Imp.of_eq rfl) ⟨rfl,rfl⟩ ?_
  exact sbl
 ·rw [if_neg h2,dZ (show ¬ (getW d k).n - n.n=0 by omega)]
  repeat' first|refine Zz ?_|intro _
  refine reIKm _ _ (Imp.of_eq ?_) ⟨rfl,rfl⟩ ?_
  ·rw [hw]
   rfl
  ·exact sbl
end Go.Proofs.YtlmcongmglfaeaaGreatDoor

namespace Go.Proofs.YtlmcongmglfaeaaGreatDoor
open Go Go.RowKit Tw Av
def dAt (R1 R2:List Ent->List Ent × Int)(d:List Ent):Nat->List Ent
 | 0=>d
 | 1=>(R1 d).1
 | _=>(R2 (R1 d).1).1
set_option maxHeartbeats 2000000 in
theorem does_spec {f1 f2:FuncId}[FnB Tryz.prog f1][FnB Tryz.prog f2]{cs1 cs2:List Value}{m1 m2:List Av.Piece}{R1 R2:List Ent->List Ent × Int}{d:List Ent}(h1:Does f1 cs1 m1 R1)(h2:Does f2 cs2 m2 R2)(hc1:∀ v ∈ cs1,v.oneCell'=true)(hc2:∀ v ∈ cs2,v.oneCell'=true)(hd:DOk d)(hd1:DOk (R1 d).1) :
  Av.Spec Tryz.prog GL 286 [dA d,.sl 1 [fnv f1 cs1,fnv f2 cs2] none] (m1++m2) fun u m=>u=.tup [dA (thenR R1 R2 d).1,int (thenR R1 R2 d).2]/\m=m1++m2:=by
 refine qE Tryz.func286 rfl Tryz.ntmps286 rfl (fun _ hs=>?_)
 repeat' first|refine Vz ?_|intro _
 rename_i g2 g4
 refine ac_loop (α:=Nat) (fun i=>[(2,ptr g2),(4,ptr g4),(5,int 0),(6,int 0),(9,.sl 1 [fnv f1 cs1,fnv f2 cs2] none),(10,int 2),(11,int i)]) (fun i=>[.var g4 61 (.agg 1 [.lit (.slice none 0 0)]),.var g2 61 (dA (dAt R1 R2 d i))]++(m1++m2))
  (fun i=>i<=2/\(1<=i->(R1 d).2=0)/\(2<=i->(R2 (R1 d).1).2=0)) (fun i=>2 - i) 0 ⟨rfl,rfl,rfl,rfl,rfl,rfl,rfl,trivial⟩ slr ⟨by decide,fun h=>absurd h (by decide),fun h=>absurd h (by decide)⟩ ?_
 rintro i ⟨hi,f1',f2'⟩
 rcases i with _|_|_|i
 ·repeat' first|refine Zz ?_|intro _
  refine al_callV (args:=[dA d]) (cs:=cs1) m1 ([Av.Piece.var g4 61 (.agg 1 [.lit (.slice none 0 0)]),Av.Piece.var g2 61 (dA (d))]++m2) (by rw [hs];exact h1 d hd) (fun u m' hh=>?_) (List.perm_append_comm_assoc _ _ _) (hcs:=hc1)
  obtain⟨rfl,rfl⟩:=hh
  refine al_st (fun ok w h=>h.perm (m':=[Av.Piece.var g4 61 (.agg 1 [.lit (.slice none 0 0)]),Av.Piece.var g2 61 (dA (d))]++(m'++m2)) (List.perm_append_comm_assoc _ _ _)) ?_
  by_cases he:(R1 d).2=0
  ·repeat' first|refine Zz ?_|intro _
   refine ae_as 6 (v:=int (R1 d).2) (v':=int 0) (Imp.of_eq (by rw [he])) ?_
   refine ae_round 1 ⟨rfl,rfl,rfl,rfl,rfl,rfl,rfl,trivial⟩ slr ⟨by decide,fun _=>he,fun h=>absurd h (by decide)⟩ (by decide)
  ·repeat' first|refine Zz ?_|intro _
   refine reK (m'++m2) ⟨?_,rfl⟩ ((List.sublist_cons_self _ _).trans (List.Sublist.refl _ |>.cons _))
   unfold thenR
   rw [if_neg he]
   rfl
 ·have he1:=f1' (by decide)
  repeat' first|refine Zz ?_|intro _
  refine al_callV (args:=[dA (R1 d).1]) (cs:=cs2) m2 ([Av.Piece.var g4 61 (.agg 1 [.lit (.slice none 0 0)]),Av.Piece.var g2 61 (dA ((R1 d).1))]++m1) (by rw [hs];exact h2 _ hd1) (fun u m' hh=>?_) ?_ (hcs:=hc2)
  rotate_left
  ·exact (List.perm_append_comm (l₁:=[Av.Piece.var g4 61 (.agg 1 [.lit (.slice none 0 0)]),Av.Piece.var g2 61 (dA ((R1 d).1))]++m1) (l₂:=m2)).trans lpr |> fun h=>(by rw [<- laa];exact h)
  obtain⟨rfl,rfl⟩:=hh
  refine al_st (fun ok w h=>h.perm (m':=[Av.Piece.var g4 61 (.agg 1 [.lit (.slice none 0 0)]),Av.Piece.var g2 61 (dA ((R1 d).1))]++(m1++m')) (by rw [<- laa];exact List.perm_append_comm)) ?_
  have ht:thenR R1 R2 d=R2 (R1 d).1:=by
   unfold thenR
   rw [if_pos he1]
  rw [ht]
  by_cases he:(R2 (R1 d).1).2=0
  ·repeat' first|refine Zz ?_|intro _
   refine ae_as 6 (v:=int (R2 (R1 d).1).2) (v':=int 0) (Imp.of_eq (by rw [he])) ?_
   refine ae_round 2 ⟨rfl,rfl,rfl,rfl,rfl,rfl,rfl,trivial⟩ slr ⟨by decide,fun _=>he1,fun _=>he⟩ (by decide)
  ·repeat' first|refine Zz ?_|intro _
   refine reK (m1++m') ⟨rfl,rfl⟩ ?_
   exact (List.Sublist.refl _ |>.cons _).cons _
 ·have he1:=f1' (by decide)
  have he2:=f2' (by decide)
  have ht:thenR R1 R2 d=R2 (R1 d).1:=by
   unfold thenR
   rw [if_pos he1]
  rw [ht,he2]
  repeat' first|refine Zz ?_|intro _
  refine reK (m1++m2) ⟨rfl,rfl⟩ ?_
  exact (List.Sublist.refl _ |>.cons _).cons _
 ·omega

attribute [local irreducible] nameB dnmB wIs
theorem may1 {a c:Bs}{n:Wd}:([a].all nameB && (dnmB c && decide (n.n≠0)))=false↔nameB a=false\/dnmB c=false\/n.n=0:=by
 simp only [List.all_cons,List.all_nil,Bool.and_true]
 by_cases h:n.n=0 <;> cases nameB a <;> cases dnmB c <;> simp [h]
theorem may2 {a b c:Bs}{n:Wd}:([a,b].all nameB && (dnmB c && decide (n.n≠0)))=false↔nameB a=false\/nameB b=false\/dnmB c=false\/n.n=0:=by
 simp only [List.all_cons,List.all_nil,Bool.and_true]
 by_cases h:n.n=0 <;> cases nameB a <;> cases nameB b <;> cases dnmB c <;> simp [h]
theorem one_cells {g1 g2:Nat}:∀ v ∈ [Value.pointer (some ⟨g1,0,none⟩),.pointer (some ⟨g2,0,none⟩)],v.oneCell'=true:=by simp [Value.oneCell']
set_option maxHeartbeats 4000000 in
instance fnBMint {d:List Ent}{a c:Bs}{n:Wd}{xs:List AV}[hx:Ents xs d]:Ans Tryz.prog GL 200 [.agg 1 [.sl 2 xs none],str a,str c,widA n] (DOk d) (.tup [dA (mintR d a c n).1,int (mintR d a c n).2]):=⟨fun hd=>by
 have h:=hx.out
 subst h
 refine qE Tryz.func200 rfl Tryz.ntmps200 rfl (fun _ hs=>?_)
 repeat' first|refine Zz ?_|intro _
 unfold mintR
 cases h1:[a].all nameB && (dnmB c && decide (n.n≠0))
 ·rw [if_pos (may1.1 h1)]
  repeat' first|refine Zz ?_|intro _
  refine reI ?_
  exact dnil_imp _
 rw [if_neg (fun e=>by rw [may1.2 e] at h1;cases h1)]
 repeat' first|refine Zz ?_|intro _
 cases h2:wIs ((getW d (balK a c)).n + n.n)
 ·rw [if_pos rfl]
  repeat' first|refine Zz ?_|intro _
  refine reI ?_
  exact dnil_imp _
 rw [if_neg (by decide)]
 repeat' (first|refine ct1 ?_|refine op1 ?_|refine opL ?_|refine op2 ?_|intro _)
 refine ac_perm [0,1,2,3,5,6,8,4,7,9,10,11,12,13,14,15] (by kernel_rfl) rfl hs (by kernel_rfl) ?_
 repeat' first|refine Vz ?_|intro _
 apply obl_fresh [];exact rfl;exact rfl;kernel_rfl;kernel_rfl
 intro s' hs'
 refine al_callK (args:=[str (totK c),widA n]) [] _ (by rw [hs'];exact more_spec) (fun u m1 hh=>?_) lpr
 obtain⟨k1,n1,rfl,rfl⟩:=hh
 refine al_nil (ae_fresh [] [.var n1 43 (widA n),.var k1 9 (str (totK c))] rfl rfl lpr rfl ?_)
 repeat' first|refine Vz ?_|intro _
 apply obl_fresh [];exact rfl;exact rfl;kernel_rfl;kernel_rfl
 intro s' hs'
 refine al_callK (args:=[str (balK a c),widA n]) [] _ (by rw [hs'];exact more_spec) (fun u m1 hh=>?_) lpr
 obtain⟨k2,n2,rfl,rfl⟩:=hh
 refine al_nil (ae_fresh [] [.var n2 43 (widA n),.var k2 9 (str (balK a c))] rfl rfl lpr rfl ?_)
 repeat' first|refine Vz ?_|intro _
 apply obl_read [4,5,6,7];exact rfl;exact rfl;kernel_rfl;intro s' hs'
 refine al_callK (args:=[dA d,.sl 1 [fnv 345 [.pointer (some ⟨k1,0,none⟩),.pointer (some ⟨n1,0,none⟩)],fnv 345 [.pointer (some ⟨k2,0,none⟩),.pointer (some ⟨n2,0,none⟩)]] none]) [.var n1 43 (widA n),.var k1 9 (str (totK c)),.var n2 43 (widA n),.var k2 9 (str (balK a c))] [] (by rw [hs'];exact does_spec (m1:=[.var n1 43 (widA n),.var k1 9 (str (totK c))]) (m2:=[.var n2 43 (widA n),.var k2 9 (str (balK a c))]) more_does more_does one_cells one_cells hd (moreR_dok hd)) (fun u m1 hh=>?_) lpr
 obtain⟨rfl,rfl⟩:=hh
 exact al_nil (ae_got rfl rfl)
 repeat' first|refine Vz ?_|intro _
 refine reE ?_
 rfl⟩
set_option maxHeartbeats 4000000 in
instance fnBBurn {d:List Ent}{a c:Bs}{n:Wd}{xs:List AV}[hx:Ents xs d]:Ans Tryz.prog GL 304 [.agg 1 [.sl 2 xs none],str a,str c,widA n] (DOk d) (.tup [dA (burnR d a c n).1,int (burnR d a c n).2]):=⟨fun hd=>by
 have h:=hx.out
 subst h
 refine qE Tryz.func304 rfl Tryz.ntmps304 rfl (fun _ hs=>?_)
 repeat' first|refine Zz ?_|intro _
 unfold burnR
 cases h1:[a].all nameB && (dnmB c && decide (n.n≠0))
 ·rw [if_pos (may1.1 h1)]
  repeat' first|refine Zz ?_|intro _
  refine reI ?_
  exact dnil_imp _
 rw [if_neg (fun e=>by rw [may1.2 e] at h1;cases h1)]
 repeat' (first|refine ct1 ?_|refine op1 ?_|refine opL ?_|refine op2 ?_|intro _)
 refine ac_perm [0,1,2,3,5,6,8,4,7,9,10,11,12,13,14,15] (by kernel_rfl) rfl hs (by kernel_rfl) ?_
 repeat' first|refine Vz ?_|intro _
 apply obl_fresh [];exact rfl;exact rfl;kernel_rfl;kernel_rfl
 intro s' hs'
 refine al_callK (args:=[str (totK c),widA n]) [] _ (by rw [hs'];exact less_spec) (fun u m1 hh=>?_) lpr
 obtain⟨k1,n1,rfl,rfl⟩:=hh
 refine al_nil (ae_fresh [] [.var n1 43 (widA n),.var k1 9 (str (totK c))] rfl rfl lpr rfl ?_)
 repeat' first|refine Vz ?_|intro _
 apply obl_fresh [];exact rfl;exact rfl;kernel_rfl;kernel_rfl
 intro s' hs'
 refine al_callK (args:=[str (balK a c),widA n]) [] _ (by rw [hs'];exact less_spec) (fun u m1 hh=>?_) lpr
 obtain⟨k2,n2,rfl,rfl⟩:=hh
 refine al_nil (ae_fresh [] [.var n2 43 (widA n),.var k2 9 (str (balK a c))] rfl rfl lpr rfl ?_)
 repeat' first|refine Vz ?_|intro _
 apply obl_read [3,4,5,6];exact rfl;exact rfl;kernel_rfl;intro s' hs'
 refine al_callK (args:=[dA d,.sl 1 [fnv 346 [.pointer (some ⟨k1,0,none⟩),.pointer (some ⟨n1,0,none⟩)],fnv 346 [.pointer (some ⟨k2,0,none⟩),.pointer (some ⟨n2,0,none⟩)]] none]) [.var n1 43 (widA n),.var k1 9 (str (totK c)),.var n2 43 (widA n),.var k2 9 (str (balK a c))] [] (by rw [hs'];exact does_spec (m1:=[.var n1 43 (widA n),.var k1 9 (str (totK c))]) (m2:=[.var n2 43 (widA n),.var k2 9 (str (balK a c))]) less_does less_does one_cells one_cells hd (lessR_dok hd)) (fun u m1 hh=>?_) lpr
 obtain⟨rfl,rfl⟩:=hh
 exact al_nil (ae_got rfl rfl)
 repeat' first|refine Vz ?_|intro _
 refine reE ?_
 rfl⟩
set_option maxHeartbeats 4000000 in
instance fnBMove {d:List Ent}{a b c:Bs}{n:Wd}{xs:List AV}[hx:Ents xs d]:Ans Tryz.prog GL 202 [.agg 1 [.sl 2 xs none],str a,str b,str c,widA n] (DOk d) (.tup [dA (moveR d a b c n).1,int (moveR d a b c n).2]):=⟨fun hd=>by
 have h:=hx.out
 subst h
 refine qE Tryz.func202 rfl Tryz.ntmps202 rfl (fun _ hs=>?_)
 repeat' first|refine Zz ?_|intro _
 unfold moveR
 cases h1:[a,b].all nameB && (dnmB c && decide (n.n≠0))
 ·rw [if_pos (may2.1 h1)]
  repeat' first|refine Zz ?_|intro _
  refine reI ?_
  exact dnil_imp _
 rw [if_neg (fun e=>by rw [may2.2 e] at h1;cases h1)]
 repeat' (first|refine ct1 ?_|refine op1 ?_|refine opL ?_|refine op2 ?_|intro _)
 refine ac_perm [0,1,2,4,6,7,9,3,5,8,10,11,12,13,14,15,16,17,18] (by kernel_rfl) rfl hs (by kernel_rfl) ?_
 repeat' first|refine Vz ?_|intro _
 apply obl_freshF [61] [];exact rfl;exact rfl;kernel_rfl;kernel_rfl;kernel_rfl;exact⟨⟨_,inferInstance⟩,trivial⟩
 intro s' hs'
 refine al_callK (args:=[str (balK a c),widA n]) [] _ (by rw [hs'];exact less_spec) (fun u m1 hh=>?_) lpr
 obtain⟨k1,n1,rfl,rfl⟩:=hh
 refine al_nil (ae_fresh [] [.var n1 43 (widA n),.var k1 9 (str (balK a c))] rfl rfl lpr rfl ?_)
 repeat' first|refine Vz ?_|intro _
 apply obl_freshF [61] [];exact rfl;exact rfl;kernel_rfl;kernel_rfl;kernel_rfl;exact⟨⟨_,inferInstance⟩,trivial⟩
 intro s' hs'
 refine al_callK (args:=[str (balK b c),widA n]) [] _ (by rw [hs'];exact more_spec) (fun u m1 hh=>?_) lpr
 obtain⟨k2,n2,rfl,rfl⟩:=hh
 refine al_nil (ae_fresh [] [.var n2 43 (widA n),.var k2 9 (str (balK b c))] rfl rfl lpr rfl ?_)
 repeat' first|refine Vz ?_|intro _
 apply obl_read [3,4,5,6];exact rfl;exact rfl;kernel_rfl;intro s' hs'
 refine al_callK (args:=[dA d,.sl 1 [fnv 346 [.pointer (some ⟨k1,0,none⟩),.pointer (some ⟨n1,0,none⟩)],fnv 345 [.pointer (some ⟨k2,0,none⟩),.pointer (some ⟨n2,0,none⟩)]] none]) [.var n1 43 (widA n),.var k1 9 (str (balK a c)),.var n2 43 (widA n),.var k2 9 (str (balK b c))] [] (by rw [hs'];exact does_spec (m1:=[.var n1 43 (widA n),.var k1 9 (str (balK a c))]) (m2:=[.var n2 43 (widA n),.var k2 9 (str (balK b c))]) less_does more_does one_cells one_cells hd (lessR_dok hd)) (fun u m1 hh=>?_) lpr
 obtain⟨rfl,rfl⟩:=hh
 exact al_nil (ae_got rfl rfl)
 iterate 3 refine ob1 ?_
 apply obl_float [61];kernel_rfl;kernel_rfl;kernel_rfl;exact⟨⟨_,inferInstance⟩,trivial⟩;intro g3
 repeat' first|refine Vz ?_|intro _
 generalize hR:thenR (lessR (balK a c) n) (moreR (balK b c) n) d=R
 by_cases hab:a=b
 ·rw [dT hab]
  repeat' first|refine Vz ?_|intro _
  by_cases he:R.2=16
  ·rw [dZ (nni he)]
   repeat' first|refine Vz ?_|intro _
   refine reE ?_
   simp [hab,he]
   rfl
  ·rw [dT he]
   repeat' first|refine Vz ?_|intro _
   refine reE ?_
   simp [hab,he]
   rfl
 ·rw [dZ hab]
  repeat' first|refine Vz ?_|intro _
  refine reE ?_
  simp [hab]
  rfl⟩
end Go.Proofs.YtlmcongmglfaeaaGreatDoor

namespace Go.Proofs.YtlmcongmglfaeaaGreatDoor
open Go Go.RowKit Tw Av
instance fnTHome {q:Int}{s k d:Bs}{a:Wd}{f g:Bs}{h t:Int}:Ans Tryz.prog GL 353 [.agg 12 [int q,str s,str k,.agg 7 [str d,widA a,str f,str g],int h,int t]] (s.length<=1000000000/\d.length<=1000000000) (boo (homeP ⟨q,s,k,d,a,f,g,h,t⟩)):=⟨fun hp=>by
 refine qE Tryz.func353 rfl Tryz.ntmps353 rfl (fun _ hs=>?_)
 repeat' first|refine Zz ?_|intro _
 refine reE ?_
 rfl⟩
instance fnR17Home {q:Int}{s k d:Bs}{a:Wd}{f g:Bs}{h t:Int}:Ans Tryz.prog GL 322 [.agg 12 [int q,str s,str k,.agg 7 [str d,widA a,str f,str g],int h,int t]] (s.length<=1000000000/\d.length<=1000000000) (boo (homeP ⟨q,s,k,d,a,f,g,h,t⟩)):=⟨fun hp=>by
 refine qE Tryz.func322 rfl Tryz.ntmps322 rfl (fun _ hs=>?_)
 repeat' first|refine Zz ?_|intro _
 refine reE ?_
 rfl⟩
theorem arr_t {s d:Bs}(h:retB s d=true):retT s d=d.drop (s.length + 1):=by
 unfold retT
 rw [if_pos h]
instance fnTArr {q:Int}{s k d:Bs}{a:Wd}{f g:Bs}{h t:Int}:Ans Tryz.prog GL 310 [.agg 12 [int q,str s,str k,.agg 7 [str d,widA a,str f,str g],int h,int t]] (s.length<=1000000000/\d.length<=1000000000/\k.length<=1000000000) (str (arrP ⟨q,s,k,d,a,f,g,h,t⟩)):=⟨fun hp=>by
 obtain⟨h1,h2,h3⟩:=hp
 show Av.Spec _ _ _ _ _ fun v m'=>v=str (if retB s d=true then d.drop (s.length + 1) else k++[47]++d)/\m'=[]
 refine qE Tryz.func310 rfl Tryz.ntmps310 rfl (fun _ hs=>?_)
 repeat' first|refine Zz ?_|intro _
 cases hr:retB s d
 ·rw [if_neg (show ¬ false=true by decide)]
  repeat' first|refine Zz ?_|intro _
  refine reE ?_
  rfl
 ·rw [if_pos rfl,<- arr_t hr]
  repeat' first|refine Zz ?_|intro _
  refine reE ?_
  rfl⟩
instance fnR17Arr {q:Int}{s k d:Bs}{a:Wd}{f g:Bs}{h t:Int}:Ans Tryz.prog GL 325 [.agg 12 [int q,str s,str k,.agg 7 [str d,widA a,str f,str g],int h,int t]] (s.length<=1000000000/\d.length<=1000000000/\k.length<=1000000000) (str (arrP ⟨q,s,k,d,a,f,g,h,t⟩)):=⟨fun hp=>by
 obtain⟨h1,h2,h3⟩:=hp
 have hl:(k++[47]).length=k.length + 1:=by rw [lla];rfl
 show Av.Spec _ _ _ _ _ fun v m'=>v=str (if retB s d=true then d.drop (s.length + 1) else k++[47]++d)/\m'=[]
 refine qE Tryz.func325 rfl Tryz.ntmps325 rfl (fun _ hs=>?_)
 repeat' first|refine Zz ?_|intro _
 cases hr:retB s d
 ·rw [if_neg (show ¬ false=true by decide)]
  repeat' first|refine Zz ?_|intro _
  refine reE ?_
  rfl
 ·rw [if_pos rfl,<- arr_t hr]
  repeat' first|refine Zz ?_|intro _
  refine reE ?_
  rfl⟩
abbrev mvA (d:Bs)(a:Wd)(f g:Bs):AV:=.agg 7 [.agg 7 [str d,widA a,str f,str g]]
instance fnMvMove {e:List Ent}{d:Bs}{n:Wd}{f g a b c:Bs}{xs:List AV}[hx:Ents xs e]:Ans Tryz.prog GL 306 [.agg 7 [.agg 7 [str d,widA n,str f,str g]],.agg 1 [.sl 2 xs none],str a,str b,str c] (DOk e) (.tup [dA (moveR e a b c n).1,int (moveR e a b c n).2]):=⟨fun hd=>by
 have h:=hx.out
 subst h
 refine qE Tryz.func306 rfl Tryz.ntmps306 rfl (fun _ hs=>?_)
 repeat' first|refine Zz ?_|intro _
 refine reE ?_
 rfl⟩
instance fnMvMint {e:List Ent}{d:Bs}{n:Wd}{f g a c:Bs}{xs:List AV}[hx:Ents xs e]:Ans Tryz.prog GL 313 [.agg 7 [.agg 7 [str d,widA n,str f,str g]],.agg 1 [.sl 2 xs none],str a,str c] (DOk e) (.tup [dA (mintR e a c n).1,int (mintR e a c n).2]):=⟨fun hd=>by
 have h:=hx.out
 subst h
 refine qE Tryz.func313 rfl Tryz.ntmps313 rfl (fun _ hs=>?_)
 repeat' first|refine Zz ?_|intro _
 refine reE ?_
 rfl⟩
def Goes (F:FuncId)(cs:List Value)(m:List Av.Piece)(M:AV)(r:List Ent × Int):Prop:=Av.Spec Tryz.prog GL F (M::cs.map .lit) m fun u m'=>u=.tup [dA r.1,int r.2]/\m'=m
set_option maxHeartbeats 1000000 in
theorem tdoes_spec {f1 f2:FuncId}[FnB Tryz.prog f1][FnB Tryz.prog f2]{cs1 cs2:List Value}{m:List Av.Piece}{r1 r2:List Ent × Int}{q:Int}{s k d:Bs}{a:Wd}{f g:Bs}{h t:Int}(h1:Goes f1 cs1 m (mvA d a f g) r1)(h2:Goes f2 cs2 m (mvA d a f g) r2)(hc1:∀ v ∈ cs1,v.oneCell'=true)(hc2:∀ v ∈ cs2,v.oneCell'=true)(hp:s.length<=1000000000/\d.length<=1000000000){R:List Ent × Int}
  (hR:R=if chkP ⟨q,s,k,d,a,f,g,h,t⟩=false then ([],1) else if homeP ⟨q,s,k,d,a,f,g,h,t⟩=true then r1 else r2) :
  Av.Spec Tryz.prog GL 302 [.agg 12 [int q,str s,str k,.agg 7 [str d,widA a,str f,str g],int h,int t],fnv f1 cs1,fnv f2 cs2] m fun u m'=>u=.tup [dA R.1,int R.2]/\m'=m:=by
 subst hR
 refine qE Tryz.func302 rfl Tryz.ntmps302 rfl (fun _ hs=>?_)
 repeat' first|refine Zz ?_|intro _
 rename_i g3 g2 g1
 unfold chkN
 cases hc:chkP ⟨q,s,k,d,a,f,g,h,t⟩
 ·rw [if_neg (show ¬ false=true by decide),if_pos rfl,dT (show (1:Int)≠0 by decide)]
  repeat' first|refine Zz ?_|intro _
  refine reIKm _ m (dnil_imp _) ⟨rfl,rfl⟩ ?_
  exact sbl
 rw [if_pos rfl,if_neg (show ¬ true=false by decide),dZ (show ¬ (0:Int)≠0 by decide)]
 repeat' first|refine Zz ?_|intro _
 cases hh:homeP ⟨q,s,k,d,a,f,g,h,t⟩
 ·rw [if_neg (show ¬ false=true by decide)]
  repeat' first|refine Zz ?_|intro _
  refine al_callV (args:=[mvA d a f g]) (cs:=cs2) m [Av.Piece.var g1 319 (mvA d a f g),.var g2 61 (.agg 1 [.lit (.slice none 0 0)]),.var g3 47 (.agg 12 [int q,str s,str k,.agg 7 [str d,widA a,str f,str g],int h,int t])] (by rw [hs];exact h2) (fun u m' hh=>?_) (List.perm_append_comm (l₁:=[Av.Piece.var g1 319 (mvA d a f g),.var g2 61 (.agg 1 [.lit (.slice none 0 0)]),.var g3 47 (.agg 12 [int q,str s,str k,.agg 7 [str d,widA a,str f,str g],int h,int t])]) (l₂:=m)) (hcs:=hc2)
  obtain⟨rfl,rfl⟩:=hh
  refine al_st (fun ok w hS=>hS.perm (m':=[Av.Piece.var g1 319 (mvA d a f g),.var g2 61 (.agg 1 [.lit (.slice none 0 0)]),.var g3 47 (.agg 12 [int q,str s,str k,.agg 7 [str d,widA a,str f,str g],int h,int t])]++m') List.perm_append_comm) ?_
  repeat' first|refine Zz ?_|intro _
  refine reK m' ⟨rfl,rfl⟩ ?_
  exact sbl
 ·rw [if_pos rfl]
  repeat' first|refine Zz ?_|intro _
  refine al_callV (args:=[mvA d a f g]) (cs:=cs1) m [Av.Piece.var g1 319 (mvA d a f g),.var g2 61 (.agg 1 [.lit (.slice none 0 0)]),.var g3 47 (.agg 12 [int q,str s,str k,.agg 7 [str d,widA a,str f,str g],int h,int t])] (by rw [hs];exact h1) (fun u m' hh=>?_) (List.perm_append_comm (l₁:=[Av.Piece.var g1 319 (mvA d a f g),.var g2 61 (.agg 1 [.lit (.slice none 0 0)]),.var g3 47 (.agg 12 [int q,str s,str k,.agg 7 [str d,widA a,str f,str g],int h,int t])]) (l₂:=m)) (hcs:=hc1)
  obtain⟨rfl,rfl⟩:=hh
  refine al_st (fun ok w hS=>hS.perm (m':=[Av.Piece.var g1 319 (mvA d a f g),.var g2 61 (.agg 1 [.lit (.slice none 0 0)]),.var g3 47 (.agg 12 [int q,str s,str k,.agg 7 [str d,widA a,str f,str g],int h,int t])]++m') List.perm_append_comm) ?_
  repeat' first|refine Zz ?_|intro _
  refine reK m' ⟨rfl,rfl⟩ ?_
  exact sbl

section
variable {e:List Ent} {q:Int} {s k d:Bs} {a:Wd} {f g:Bs} {h t:Int} {g1 g2 g3:Nat} {z:Bs}
abbrev gE (g:Nat)(e:List Ent):Av.Piece:=.var g 61 (dA e)
abbrev gP (g:Nat)(q:Int)(s k d:Bs)(a:Wd)(f g':Bs)(h t:Int):Av.Piece:=.var g 47 (.agg 12 [int q,str s,str k,.agg 7 [str d,widA a,str f,str g'],int h,int t])
theorem send1 (hd:DOk e):Goes 303 [.pointer (some ⟨g1,0,none⟩)] [gP g2 q s k d a f g h t,gE g1 e] (mvA d a f g) (burnR e f d a):=by
 show Av.Spec _ _ _ [mvA d a f g,ptr g1] _ _
 refine qE Tryz.func303 rfl Tryz.ntmps303 rfl (fun _ hs=>?_)
 repeat' first|refine Zz ?_|intro _
 refine reK _ ⟨rfl,rfl⟩ ?_
 exact sbl
theorem send2 (hd:DOk e)(hs1:s.length<=1000000000):Goes 305 [.pointer (some ⟨g1,0,none⟩),.pointer (some ⟨g2,0,none⟩)] [gP g2 q s k d a f g h t,gE g1 e] (mvA d a f g) (moveR e f (escB s) d a):=by
 show Av.Spec _ _ _ [mvA d a f g,ptr g1,ptr g2] _ _
 refine qE Tryz.func305 rfl Tryz.ntmps305 rfl (fun _ hs=>?_)
 repeat' first|refine Zz ?_|intro _
 refine reK _ ⟨rfl,rfl⟩ ?_
 exact sbl
theorem back1 (hd:DOk e):Goes 356 [.pointer (some ⟨g1,0,none⟩)] [gP g2 q s k d a f g h t,gE g1 e] (mvA d a f g) (mintR e f d a):=by
 show Av.Spec _ _ _ [mvA d a f g,ptr g1] _ _
 refine qE Tryz.func356 rfl Tryz.ntmps356 rfl (fun _ hs=>?_)
 repeat' first|refine Zz ?_|intro _
 refine reK _ ⟨rfl,rfl⟩ ?_
 exact sbl
theorem back2 (hd:DOk e)(hs1:s.length<=1000000000):Goes 357 [.pointer (some ⟨g1,0,none⟩),.pointer (some ⟨g2,0,none⟩)] [gP g2 q s k d a f g h t,gE g1 e] (mvA d a f g) (moveR e (escB s) f d a):=by
 show Av.Spec _ _ _ [mvA d a f g,ptr g1,ptr g2] _ _
 refine qE Tryz.func357 rfl Tryz.ntmps357 rfl (fun _ hs=>?_)
 repeat' first|refine Zz ?_|intro _
 refine reK _ ⟨rfl,rfl⟩ ?_
 exact sbl
theorem recv1 (hd:DOk e)(hs1:k.length<=1000000000):Goes 311 [.pointer (some ⟨g1,0,none⟩),.pointer (some ⟨g2,0,none⟩),.pointer (some ⟨g3,0,none⟩)] [.var g3 9 (str z),gP g2 q s k d a f g h t,gE g1 e] (mvA d a f g) (moveR e (escB k) g z a):=by
 show Av.Spec _ _ _ [mvA d a f g,ptr g1,ptr g2,ptr g3] _ _
 refine qE Tryz.func311 rfl Tryz.ntmps311 rfl (fun _ hs=>?_)
 repeat' first|refine Zz ?_|intro _
 refine reK _ ⟨rfl,rfl⟩ ?_
 exact sbl
theorem recv2 (hd:DOk e):Goes 312 [.pointer (some ⟨g1,0,none⟩),.pointer (some ⟨g3,0,none⟩)] [.var g3 9 (str z),gP g2 q s k d a f g h t,gE g1 e] (mvA d a f g) (mintR e g z a):=by
 show Av.Spec _ _ _ [mvA d a f g,ptr g1,ptr g3] _ _
 refine qE Tryz.func312 rfl Tryz.ntmps312 rfl (fun _ hs=>?_)
 repeat' first|refine Zz ?_|intro _
 refine reK _ ⟨rfl,rfl⟩ ?_
 exact sbl
end
theorem or_cond {c:Bool}{α:Type}{a b:α}:(if true=false\/c=false then a else b)=if c=false then a else b:=by cases c <;> rfl
theorem arr_len {q:Int}{s k d:Bs}{a:Wd}{f g:Bs}{h t:Int}(h1:d.length<=400000000)(h2:k.length<=400000000):(arrP ⟨q,s,k,d,a,f,g,h,t⟩).length<=1000000000:=by
 unfold arrP
 split
 ·rw [List.length_drop]
  show d.length - _<=_
  omega
 ·rw [lla,lla]
  show k.length + 1 + d.length<=_
  omega
set_option maxHeartbeats 1000000 in
instance fnTSend {e:List Ent}{q:Int}{s k d:Bs}{a:Wd}{f g:Bs}{h t:Int}{xs:List AV}[hx:Ents xs e]:Ans Tryz.prog GL 215 [.agg 1 [.sl 2 xs none],.agg 12 [int q,str s,str k,.agg 7 [str d,widA a,str f,str g],int h,int t]] (DOk e/\s.length<=1000000000/\d.length<=1000000000) (.tup [dA (sendR e ⟨q,s,k,d,a,f,g,h,t⟩).1,int (sendR e ⟨q,s,k,d,a,f,g,h,t⟩).2]):=⟨fun hp=>by
 obtain⟨hd,hs1,hd1⟩:=hp
 have h':=hx.out
 subst h'
 refine qE Tryz.func215 rfl Tryz.ntmps215 rfl (fun _ hs=>?_)
 repeat' first|refine Zz ?_|intro _
 rename_i g1 g2 g3
 refine al_makeFunc (vs:=[.pointer (some ⟨g1,0,none⟩)]) ?_
 refine al_makeFunc (vs:=[.pointer (some ⟨g1,0,none⟩),.pointer (some ⟨g2,0,none⟩)]) ?_
 refine al_callK (args:=[.agg 12 [int q,str s,str k,.agg 7 [str d,widA a,str f,str g],int h,int t],fnv 303 [.pointer (some ⟨g1,0,none⟩)],fnv 305 [.pointer (some ⟨g1,0,none⟩),.pointer (some ⟨g2,0,none⟩)]]) [gP g2 q s k d a f g h t,gE g1 e] [.var g3 61 (.agg 1 [.lit (.slice none 0 0)])] (by rw [hs];exact tdoes_spec (send1 hd) (send2 hd hs1) (by simp [Value.oneCell']) (by simp [Value.oneCell']) ⟨hs1,hd1⟩ (R:=sendR e ⟨q,s,k,d,a,f,g,h,t⟩) rfl) (fun u m1 hh=>?_) (List.perm_append_comm (l₁:=[Av.Piece.var g3 61 (.agg 1 [.lit (.slice none 0 0)])]) (l₂:=[gP g2 q s k d a f g h t,gE g1 e]))
 obtain⟨rfl,rfl⟩:=hh
 repeat' first|refine Zz ?_|intro _
 refine reE ?_
 rfl⟩
set_option maxHeartbeats 1000000 in
instance fnTRefund {e:List Ent}{q:Int}{s k d:Bs}{a:Wd}{f g:Bs}{h t:Int}{xs:List AV}[hx:Ents xs e]:Ans Tryz.prog GL 315 [.agg 1 [.sl 2 xs none],.agg 12 [int q,str s,str k,.agg 7 [str d,widA a,str f,str g],int h,int t]] (DOk e/\s.length<=1000000000/\d.length<=1000000000) (.tup [dA (backR e ⟨q,s,k,d,a,f,g,h,t⟩).1,int (backR e ⟨q,s,k,d,a,f,g,h,t⟩).2]):=⟨fun hp=>by
 obtain⟨hd,hs1,hd1⟩:=hp
 have h':=hx.out
 subst h'
 refine qE Tryz.func315 rfl Tryz.ntmps315 rfl (fun _ hs=>?_)
 repeat' first|refine Zz ?_|intro _
 rename_i g1 g2 g3
 refine al_makeFunc (vs:=[.pointer (some ⟨g1,0,none⟩)]) ?_
 refine al_makeFunc (vs:=[.pointer (some ⟨g1,0,none⟩),.pointer (some ⟨g2,0,none⟩)]) ?_
 refine al_callK (args:=[.agg 12 [int q,str s,str k,.agg 7 [str d,widA a,str f,str g],int h,int t],fnv 356 [.pointer (some ⟨g1,0,none⟩)],fnv 357 [.pointer (some ⟨g1,0,none⟩),.pointer (some ⟨g2,0,none⟩)]]) [gP g2 q s k d a f g h t,gE g1 e] [.var g3 61 (.agg 1 [.lit (.slice none 0 0)])] (by rw [hs];exact tdoes_spec (back1 hd) (back2 hd hs1) (by simp [Value.oneCell']) (by simp [Value.oneCell']) ⟨hs1,hd1⟩ (R:=backR e ⟨q,s,k,d,a,f,g,h,t⟩) rfl) (fun u m1 hh=>?_) (List.perm_append_comm (l₁:=[Av.Piece.var g3 61 (.agg 1 [.lit (.slice none 0 0)])]) (l₂:=[gP g2 q s k d a f g h t,gE g1 e]))
 obtain⟨rfl,rfl⟩:=hh
 repeat' first|refine Zz ?_|intro _
 refine reE ?_
 rfl⟩
set_option maxHeartbeats 1000000 in
instance fnTRecv {e:List Ent}{q:Int}{s k d:Bs}{a:Wd}{f g:Bs}{h t:Int}{xs:List AV}[hx:Ents xs e]:Ans Tryz.prog GL 223 [.agg 1 [.sl 2 xs none],.agg 12 [int q,str s,str k,.agg 7 [str d,widA a,str f,str g],int h,int t]] (DOk e/\s.length<=400000000/\d.length<=400000000/\k.length<=400000000) (.tup [dA (recvR e ⟨q,s,k,d,a,f,g,h,t⟩).1,int (recvR e ⟨q,s,k,d,a,f,g,h,t⟩).2]):=⟨fun hp=>by
 obtain⟨hd,hs1,hd1,hk1⟩:=hp
 have h':=hx.out
 subst h'
 have hal:(arrP ⟨q,s,k,d,a,f,g,h,t⟩).length<=1000000000:=arr_len hd1 hk1
 refine qE Tryz.func223 rfl Tryz.ntmps223 rfl (fun _ hs=>?_)
 repeat' first|refine Zz ?_|intro _
 generalize hz:arrP ⟨q,s,k,d,a,f,g,h,t⟩=z at hal ⊢
 repeat' first|refine Zz ?_|intro _
 rename_i g1 g2 g3 g4
 have hR:recvR e ⟨q,s,k,d,a,f,g,h,t⟩=if denB z=false\/chkP ⟨q,s,k,d,a,f,g,h,t⟩=false then ([],1) else if homeP ⟨q,s,k,d,a,f,g,h,t⟩=true then moveR e (escB k) g z a else mintR e g z a:=by
  unfold recvR
  rw [hz]
 rw [hR]
 cases hb:denB z
 ·rw [if_pos (.inl rfl)]
  repeat' first|refine Zz ?_|intro _
  refine reI ?_
  exact dnil_imp _
 rw [or_cond]
 repeat' first|refine Zz ?_|intro _
 refine al_makeFunc (vs:=[.pointer (some ⟨g1,0,none⟩),.pointer (some ⟨g2,0,none⟩),.pointer (some ⟨g4,0,none⟩)]) ?_
 refine al_makeFunc (vs:=[.pointer (some ⟨g1,0,none⟩),.pointer (some ⟨g4,0,none⟩)]) ?_
 refine al_callK (args:=[.agg 12 [int q,str s,str k,.agg 7 [str d,widA a,str f,str g],int h,int t],fnv 311 [.pointer (some ⟨g1,0,none⟩),.pointer (some ⟨g2,0,none⟩),.pointer (some ⟨g4,0,none⟩)],fnv 312 [.pointer (some ⟨g1,0,none⟩),.pointer (some ⟨g4,0,none⟩)]]) [.var g4 9 (str z),gP g2 q s k d a f g h t,gE g1 e] [.var g3 61 (.agg 1 [.lit (.slice none 0 0)])] (by rw [hs];exact tdoes_spec (recv1 hd (by omega)) (recv2 hd) (by simp [Value.oneCell']) (by simp [Value.oneCell']) ⟨by omega,by omega⟩ rfl) (fun u m1 hh=>?_) (List.Perm.cons _ (List.perm_append_comm (l₁:=[Av.Piece.var g3 61 (.agg 1 [.lit (.slice none 0 0)])]) (l₂:=[gP g2 q s k d a f g h t,gE g1 e])))
 obtain⟨rfl,rfl⟩:=hh
 repeat' first|refine Zz ?_|intro _
 refine reE ?_
 rfl⟩
set_option maxHeartbeats 1000000 in
instance fnR17Send {e:List Ent}{q:Int}{s k d:Bs}{a:Wd}{f g:Bs}{h t:Int}{xs:List AV}{id:Option Value}[hx:Ents xs e]:Ans Tryz.prog GL 246 [.sl 2 xs id,.agg 12 [int q,str s,str k,.agg 7 [str d,widA a,str f,str g],int h,int t]] (DOk e/\s.length<=1000000000/\k.length<=1000000000/\d.length<=1000000000/\f.length<=1000000000/\g.length<=1000000000) (.tup [dSl (sendR e ⟨q,s,k,d,a,f,g,h,t⟩).1,int (sendR e ⟨q,s,k,d,a,f,g,h,t⟩).2]):=⟨fun hp=>by
 obtain⟨hd,hs1,hk1,hd1,hf1,hg1⟩:=hp
 show Av.Spec _ _ _ _ _ fun v m'=>v=.tup [dSl (if chkP ⟨q,s,k,d,a,f,g,h,t⟩=false then ([],1) else if homeP ⟨q,s,k,d,a,f,g,h,t⟩=true then burnR e f d a else moveR e f (escB s) d a).1,int (if chkP ⟨q,s,k,d,a,f,g,h,t⟩=false then ([],1) else if homeP ⟨q,s,k,d,a,f,g,h,t⟩=true then burnR e f d a else moveR e f (escB s) d a).2]/\m'=[]
 refine qE Tryz.func246 rfl Tryz.ntmps246 rfl (fun _ hs=>?_)
 repeat' first|refine Zz ?_|intro _
 unfold chkN
 cases hc:chkP ⟨q,s,k,d,a,f,g,h,t⟩
 ·rw [if_neg (show ¬ false=true by decide),if_pos rfl,dT (show (1:Int)≠0 by decide)]
  repeat' first|refine Zz ?_|intro _
  refine reI ?_
  exact nil_imp _
 rw [if_pos rfl,if_neg (show ¬ true=false by decide),dZ (show ¬ (0:Int)≠0 by decide)]
 repeat' first|refine Zz ?_|intro _
 cases hh:homeP ⟨q,s,k,d,a,f,g,h,t⟩
 ·rw [if_neg (show ¬ false=true by decide)]
  repeat' first|refine Zz ?_|intro _
  refine reE ?_
  rfl
 ·rw [if_pos rfl]
  repeat' first|refine Zz ?_|intro _
  refine reE ?_
  rfl⟩
set_option maxHeartbeats 1000000 in
instance fnR17Refund {e:List Ent}{q:Int}{s k d:Bs}{a:Wd}{f g:Bs}{h t:Int}{xs:List AV}{id:Option Value}[hx:Ents xs e]:Ans Tryz.prog GL 251 [.sl 2 xs id,.agg 12 [int q,str s,str k,.agg 7 [str d,widA a,str f,str g],int h,int t]] (DOk e/\s.length<=1000000000/\k.length<=1000000000/\d.length<=1000000000/\f.length<=1000000000/\g.length<=1000000000) (.tup [dSl (backR e ⟨q,s,k,d,a,f,g,h,t⟩).1,int (backR e ⟨q,s,k,d,a,f,g,h,t⟩).2]):=⟨fun hp=>by
 obtain⟨hd,hs1,hk1,hd1,hf1,hg1⟩:=hp
 show Av.Spec _ _ _ _ _ fun v m'=>v=.tup [dSl (if chkP ⟨q,s,k,d,a,f,g,h,t⟩=false then ([],1) else if homeP ⟨q,s,k,d,a,f,g,h,t⟩=true then mintR e f d a else moveR e (escB s) f d a).1,int (if chkP ⟨q,s,k,d,a,f,g,h,t⟩=false then ([],1) else if homeP ⟨q,s,k,d,a,f,g,h,t⟩=true then mintR e f d a else moveR e (escB s) f d a).2]/\m'=[]
 refine qE Tryz.func251 rfl Tryz.ntmps251 rfl (fun _ hs=>?_)
 repeat' first|refine Zz ?_|intro _
 unfold chkN
 cases hc:chkP ⟨q,s,k,d,a,f,g,h,t⟩
 ·rw [if_neg (show ¬ false=true by decide),if_pos rfl,dT (show (1:Int)≠0 by decide)]
  repeat' first|refine Zz ?_|intro _
  refine reI ?_
  exact nil_imp _
 rw [if_pos rfl,if_neg (show ¬ true=false by decide),dZ (show ¬ (0:Int)≠0 by decide)]
 repeat' first|refine Zz ?_|intro _
 cases hh:homeP ⟨q,s,k,d,a,f,g,h,t⟩
 ·rw [if_neg (show ¬ false=true by decide)]
  repeat' first|refine Zz ?_|intro _
  refine reE ?_
  rfl
 ·rw [if_pos rfl]
  repeat' first|refine Zz ?_|intro _
  refine reE ?_
  rfl⟩
set_option maxHeartbeats 1000000 in
instance fnR17Recv {e:List Ent}{q:Int}{s k d:Bs}{a:Wd}{f g:Bs}{h t:Int}{xs:List AV}{id:Option Value}[hx:Ents xs e]:Ans Tryz.prog GL 248 [.sl 2 xs id,.agg 12 [int q,str s,str k,.agg 7 [str d,widA a,str f,str g],int h,int t]] (DOk e/\s.length<=400000000/\k.length<=400000000/\d.length<=400000000/\f.length<=400000000/\g.length<=400000000) (.tup [dSl (recvR e ⟨q,s,k,d,a,f,g,h,t⟩).1,int (recvR e ⟨q,s,k,d,a,f,g,h,t⟩).2]):=⟨fun hp=>by
 obtain⟨hd,hs1,hk1,hd1,hf1,hg1⟩:=hp
 have hal:(arrP ⟨q,s,k,d,a,f,g,h,t⟩).length<=1000000000:=arr_len hd1 hk1
 refine qE Tryz.func248 rfl Tryz.ntmps248 rfl (fun _ hs=>?_)
 repeat' first|refine Zz ?_|intro _
 generalize hz:arrP ⟨q,s,k,d,a,f,g,h,t⟩=z at hal ⊢
 have hR:recvR e ⟨q,s,k,d,a,f,g,h,t⟩=if denB z=false\/chkP ⟨q,s,k,d,a,f,g,h,t⟩=false then ([],1) else if homeP ⟨q,s,k,d,a,f,g,h,t⟩=true then moveR e (escB k) g z a else mintR e g z a:=by
  unfold recvR
  rw [hz]
 rw [hR]
 repeat' first|refine Zz ?_|intro _
 unfold chkN
 cases hc:chkP ⟨q,s,k,d,a,f,g,h,t⟩
 ·rw [if_neg (show ¬ false=true by decide),if_pos (.inr rfl),dT (show (1:Int)≠0 by decide)]
  repeat' first|refine Zz ?_|intro _
  refine reI ?_
  exact nil_imp _
 rw [if_pos rfl,dZ (show ¬ (0:Int)≠0 by decide)]
 cases hb:denB z
 ·rw [if_pos (.inl rfl)]
  repeat' first|refine Zz ?_|intro _
  refine reI ?_
  exact nil_imp _
 rw [or_cond,if_neg (show ¬ true=false by decide)]
 repeat' first|refine Zz ?_|intro _
 cases hh:homeP ⟨q,s,k,d,a,f,g,h,t⟩
 ·rw [if_neg (show ¬ false=true by decide)]
  repeat' first|refine Zz ?_|intro _
  refine reE ?_
  rfl
 ·rw [if_pos rfl]
  repeat' first|refine Zz ?_|intro _
  refine reE ?_
  rfl⟩
end Go.Proofs.YtlmcongmglfaeaaGreatDoor
