/- coins that go, walked: Send, Recv, Refund of both -/
import Derived.Test.YtppngnhckahbnaaGreatDoorA41
import Derived.Test.YtppngnhckahbnaaGreatDoorA43
namespace Go.Proofs.YtppngnhckahbnaaGreatDoor
open Go Go.RowKit Tw Av
attribute [local irreducible] nameB dnmB wIs
theorem may1 {a c:Bs}{n:Wd}:([a].all nameB && (dnmB c && decide (n.n≠0)))=false↔nameB a=false∨dnmB c=false∨n.n=0:=by
 simp only [List.all_cons,List.all_nil,Bool.and_true]
 by_cases h:n.n=0 <;> cases nameB a <;> cases dnmB c <;> simp [h]
theorem may2 {a b c:Bs}{n:Wd}:([a,b].all nameB && (dnmB c && decide (n.n≠0)))=false↔nameB a=false∨nameB b=false∨dnmB c=false∨n.n=0:=by
 simp only [List.all_cons,List.all_nil,Bool.and_true]
 by_cases h:n.n=0 <;> cases nameB a <;> cases nameB b <;> cases dnmB c <;> simp [h]
theorem one_cells {g1 g2:Nat}:∀ v ∈ [Value.pointer (some ⟨g1,0,none⟩),.pointer (some ⟨g2,0,none⟩)],v.oneCell'=true:=by simp [Value.oneCell']
set_option maxHeartbeats 4000000 in
instance fnBMint {d:List Ent}{a c:Bs}{n:Wd}{xs:List AV}[hx:Ents xs d]:Ans Tryz.prog GL 208 [.agg 1 [.sl 2 xs none],str a,str c,widA n] (DOk d) (.tup [dA (mintR d a c n).1,int (mintR d a c n).2]):=⟨fun hd=>by
 have h:=hx.out
 subst h
 refine spec_enter Tryz.func208 rfl Tryz.ntmps208 rfl (fun _ hs=>?_)
 repeat' first|refine Zz ?_|intro _
 unfold mintR
 cases h1:[a].all nameB && (dnmB c && decide (n.n≠0))
 ·rw [if_pos (may1.1 h1)]
  repeat' first|refine Zz ?_|intro _
  refine reI ?_
  exact dnil_imp _
 rw [if_neg (fun e=>by rw [may1.2 e] at h1;cases h1)]
 repeat' first|refine Zz ?_|intro _
 cases h2:wIs ((getW d (balK a c)).n + n.n)
 ·rw [if_pos rfl]
  repeat' first|refine Zz ?_|intro _
  refine reI ?_
  exact dnil_imp _
 rw [if_neg (by decide)]
 repeat' (first|refine ct1 ?_|refine op1 ?_|refine opL ?_|refine op2 ?_|intro _)
 refine ac_perm [0,1,2,3,5,6,8,4,7,9,10,11,12,13,14,15] (by kernel_rfl) rfl hs (by kernel_rfl) ?_
 repeat' first|refine Vz ?_|intro _
 apply obl_fresh [];exact rfl;exact rfl;kernel_rfl;kernel_rfl
 intro s' hs'
 refine al_callK (args:=[str (totK c),widA n]) [] _ (by rw [hs'];exact more_spec) (fun u m1 hh=>?_) (List.Perm.refl _)
 obtain⟨k1,n1,rfl,rfl⟩:=hh
 refine al_nil (ae_fresh [] [.var n1 43 (widA n),.var k1 9 (str (totK c))] rfl rfl (List.Perm.refl _) rfl ?_)
 repeat' first|refine Vz ?_|intro _
 apply obl_fresh [];exact rfl;exact rfl;kernel_rfl;kernel_rfl
 intro s' hs'
 refine al_callK (args:=[str (balK a c),widA n]) [] _ (by rw [hs'];exact more_spec) (fun u m1 hh=>?_) (List.Perm.refl _)
 obtain⟨k2,n2,rfl,rfl⟩:=hh
 refine al_nil (ae_fresh [] [.var n2 43 (widA n),.var k2 9 (str (balK a c))] rfl rfl (List.Perm.refl _) rfl ?_)
 repeat' first|refine Vz ?_|intro _
 apply obl_read [4,5,6,7];exact rfl;exact rfl;kernel_rfl;intro s' hs'
 refine al_callK (args:=[dA d,.sl 1 [fnv 353 [.pointer (some ⟨k1,0,none⟩),.pointer (some ⟨n1,0,none⟩)],fnv 353 [.pointer (some ⟨k2,0,none⟩),.pointer (some ⟨n2,0,none⟩)]] none]) [.var n1 43 (widA n),.var k1 9 (str (totK c)),.var n2 43 (widA n),.var k2 9 (str (balK a c))] [] (by rw [hs'];exact does_spec (m1:=[.var n1 43 (widA n),.var k1 9 (str (totK c))]) (m2:=[.var n2 43 (widA n),.var k2 9 (str (balK a c))]) more_does more_does one_cells one_cells hd (moreR_dok hd)) (fun u m1 hh=>?_) (List.Perm.refl _)
 obtain⟨rfl,rfl⟩:=hh
 exact al_nil (ae_got rfl rfl)
 repeat' first|refine Vz ?_|intro _
 refine reE ?_
 rfl⟩
set_option maxHeartbeats 4000000 in
instance fnBBurn {d:List Ent}{a c:Bs}{n:Wd}{xs:List AV}[hx:Ents xs d]:Ans Tryz.prog GL 312 [.agg 1 [.sl 2 xs none],str a,str c,widA n] (DOk d) (.tup [dA (burnR d a c n).1,int (burnR d a c n).2]):=⟨fun hd=>by
 have h:=hx.out
 subst h
 refine spec_enter Tryz.func312 rfl Tryz.ntmps312 rfl (fun _ hs=>?_)
 repeat' first|refine Zz ?_|intro _
 unfold burnR
 cases h1:[a].all nameB && (dnmB c && decide (n.n≠0))
 ·rw [if_pos (may1.1 h1)]
  repeat' first|refine Zz ?_|intro _
  refine reI ?_
  exact dnil_imp _
 rw [if_neg (fun e=>by rw [may1.2 e] at h1;cases h1)]
 repeat' (first|refine ct1 ?_|refine op1 ?_|refine opL ?_|refine op2 ?_|intro _)
 refine ac_perm [0,1,2,3,5,6,8,4,7,9,10,11,12,13,14,15] (by kernel_rfl) rfl hs (by kernel_rfl) ?_
 repeat' first|refine Vz ?_|intro _
 apply obl_fresh [];exact rfl;exact rfl;kernel_rfl;kernel_rfl
 intro s' hs'
 refine al_callK (args:=[str (totK c),widA n]) [] _ (by rw [hs'];exact less_spec) (fun u m1 hh=>?_) (List.Perm.refl _)
 obtain⟨k1,n1,rfl,rfl⟩:=hh
 refine al_nil (ae_fresh [] [.var n1 43 (widA n),.var k1 9 (str (totK c))] rfl rfl (List.Perm.refl _) rfl ?_)
 repeat' first|refine Vz ?_|intro _
 apply obl_fresh [];exact rfl;exact rfl;kernel_rfl;kernel_rfl
 intro s' hs'
 refine al_callK (args:=[str (balK a c),widA n]) [] _ (by rw [hs'];exact less_spec) (fun u m1 hh=>?_) (List.Perm.refl _)
 obtain⟨k2,n2,rfl,rfl⟩:=hh
 refine al_nil (ae_fresh [] [.var n2 43 (widA n),.var k2 9 (str (balK a c))] rfl rfl (List.Perm.refl _) rfl ?_)
 repeat' first|refine Vz ?_|intro _
 apply obl_read [3,4,5,6];exact rfl;exact rfl;kernel_rfl;intro s' hs'
 refine al_callK (args:=[dA d,.sl 1 [fnv 354 [.pointer (some ⟨k1,0,none⟩),.pointer (some ⟨n1,0,none⟩)],fnv 354 [.pointer (some ⟨k2,0,none⟩),.pointer (some ⟨n2,0,none⟩)]] none]) [.var n1 43 (widA n),.var k1 9 (str (totK c)),.var n2 43 (widA n),.var k2 9 (str (balK a c))] [] (by rw [hs'];exact does_spec (m1:=[.var n1 43 (widA n),.var k1 9 (str (totK c))]) (m2:=[.var n2 43 (widA n),.var k2 9 (str (balK a c))]) less_does less_does one_cells one_cells hd (lessR_dok hd)) (fun u m1 hh=>?_) (List.Perm.refl _)
 obtain⟨rfl,rfl⟩:=hh
 exact al_nil (ae_got rfl rfl)
 repeat' first|refine Vz ?_|intro _
 refine reE ?_
 rfl⟩
set_option maxHeartbeats 4000000 in
instance fnBMove {d:List Ent}{a b c:Bs}{n:Wd}{xs:List AV}[hx:Ents xs d]:Ans Tryz.prog GL 210 [.agg 1 [.sl 2 xs none],str a,str b,str c,widA n] (DOk d) (.tup [dA (moveR d a b c n).1,int (moveR d a b c n).2]):=⟨fun hd=>by
 have h:=hx.out
 subst h
 refine spec_enter Tryz.func210 rfl Tryz.ntmps210 rfl (fun _ hs=>?_)
 repeat' first|refine Zz ?_|intro _
 unfold moveR
 cases h1:[a,b].all nameB && (dnmB c && decide (n.n≠0))
 ·rw [if_pos (may2.1 h1)]
  repeat' first|refine Zz ?_|intro _
  refine reI ?_
  exact dnil_imp _
 rw [if_neg (fun e=>by rw [may2.2 e] at h1;cases h1)]
 repeat' (first|refine ct1 ?_|refine op1 ?_|refine opL ?_|refine op2 ?_|intro _)
 refine ac_perm [0,1,2,4,6,7,9,3,5,8,10,11,12,13,14,15,16,17,18] (by kernel_rfl) rfl hs (by kernel_rfl) ?_
 repeat' first|refine Vz ?_|intro _
 apply obl_freshF [61] [];exact rfl;exact rfl;kernel_rfl;kernel_rfl;kernel_rfl;exact⟨⟨_,inferInstance⟩,trivial⟩
 intro s' hs'
 refine al_callK (args:=[str (balK a c),widA n]) [] _ (by rw [hs'];exact less_spec) (fun u m1 hh=>?_) (List.Perm.refl _)
 obtain⟨k1,n1,rfl,rfl⟩:=hh
 refine al_nil (ae_fresh [] [.var n1 43 (widA n),.var k1 9 (str (balK a c))] rfl rfl (List.Perm.refl _) rfl ?_)
 repeat' first|refine Vz ?_|intro _
 apply obl_freshF [61] [];exact rfl;exact rfl;kernel_rfl;kernel_rfl;kernel_rfl;exact⟨⟨_,inferInstance⟩,trivial⟩
 intro s' hs'
 refine al_callK (args:=[str (balK b c),widA n]) [] _ (by rw [hs'];exact more_spec) (fun u m1 hh=>?_) (List.Perm.refl _)
 obtain⟨k2,n2,rfl,rfl⟩:=hh
 refine al_nil (ae_fresh [] [.var n2 43 (widA n),.var k2 9 (str (balK b c))] rfl rfl (List.Perm.refl _) rfl ?_)
 repeat' first|refine Vz ?_|intro _
 apply obl_read [3,4,5,6];exact rfl;exact rfl;kernel_rfl;intro s' hs'
 refine al_callK (args:=[dA d,.sl 1 [fnv 354 [.pointer (some ⟨k1,0,none⟩),.pointer (some ⟨n1,0,none⟩)],fnv 353 [.pointer (some ⟨k2,0,none⟩),.pointer (some ⟨n2,0,none⟩)]] none]) [.var n1 43 (widA n),.var k1 9 (str (balK a c)),.var n2 43 (widA n),.var k2 9 (str (balK b c))] [] (by rw [hs'];exact does_spec (m1:=[.var n1 43 (widA n),.var k1 9 (str (balK a c))]) (m2:=[.var n2 43 (widA n),.var k2 9 (str (balK b c))]) less_does more_does one_cells one_cells hd (lessR_dok hd)) (fun u m1 hh=>?_) (List.Perm.refl _)
 obtain⟨rfl,rfl⟩:=hh
 exact al_nil (ae_got rfl rfl)
 iterate 3 refine ob1 ?_
 apply obl_float [61];kernel_rfl;kernel_rfl;kernel_rfl;exact⟨⟨_,inferInstance⟩,trivial⟩;intro g3
 repeat' first|refine Vz ?_|intro _
 generalize hR:thenR (lessR (balK a c) n) (moreR (balK b c) n) d=R
 by_cases hab:a=b
 ·rw [decide_eq_true hab]
  repeat' first|refine Vz ?_|intro _
  by_cases he:R.2=16
  ·rw [decide_eq_false (not_not_intro he)]
   repeat' first|refine Vz ?_|intro _
   refine reE ?_
   simp [hab,he,hR]
   rfl
  ·rw [decide_eq_true he]
   repeat' first|refine Vz ?_|intro _
   refine reE ?_
   simp [hab,he,hR]
   rfl
 ·rw [decide_eq_false hab]
  repeat' first|refine Vz ?_|intro _
  refine reE ?_
  simp [hab,hR]
  rfl⟩
end Go.Proofs.YtppngnhckahbnaaGreatDoor

namespace Go.Proofs.YtppngnhckahbnaaGreatDoor
open Go Go.RowKit Tw Av
instance fnTHome {q:Int}{s k d:Bs}{a:Wd}{f g:Bs}{h t:Int}:Ans Tryz.prog GL 361 [.agg 12 [int q,str s,str k,.agg 7 [str d,widA a,str f,str g],int h,int t]] (s.length≤1000000000∧d.length≤1000000000) (boo (homeP ⟨q,s,k,d,a,f,g,h,t⟩)):=⟨fun hp=>by
 refine spec_enter Tryz.func361 rfl Tryz.ntmps361 rfl (fun _ hs=>?_)
 repeat' first|refine Zz ?_|intro _
 refine reE ?_
 rfl⟩
instance fnR17Home {q:Int}{s k d:Bs}{a:Wd}{f g:Bs}{h t:Int}:Ans Tryz.prog GL 330 [.agg 12 [int q,str s,str k,.agg 7 [str d,widA a,str f,str g],int h,int t]] (s.length≤1000000000∧d.length≤1000000000) (boo (homeP ⟨q,s,k,d,a,f,g,h,t⟩)):=⟨fun hp=>by
 refine spec_enter Tryz.func330 rfl Tryz.ntmps330 rfl (fun _ hs=>?_)
 repeat' first|refine Zz ?_|intro _
 refine reE ?_
 rfl⟩
theorem arr_t {s d:Bs}(h:retB s d=true):retT s d=d.drop (s.length + 1):=by
 unfold retT
 rw [if_pos h]
instance fnTArr {q:Int}{s k d:Bs}{a:Wd}{f g:Bs}{h t:Int}:Ans Tryz.prog GL 318 [.agg 12 [int q,str s,str k,.agg 7 [str d,widA a,str f,str g],int h,int t]] (s.length≤1000000000∧d.length≤1000000000∧k.length≤1000000000) (str (arrP ⟨q,s,k,d,a,f,g,h,t⟩)):=⟨fun hp=>by
 obtain⟨h1,h2,h3⟩:=hp
 show Av.Spec _ _ _ _ _ fun v m'=>v=str (if retB s d=true then d.drop (s.length + 1) else k++[47]++d)∧m'=[]
 refine spec_enter Tryz.func318 rfl Tryz.ntmps318 rfl (fun _ hs=>?_)
 repeat' first|refine Zz ?_|intro _
 cases hr:retB s d
 ·rw [if_neg (show ¬ false=true by decide)]
  repeat' first|refine Zz ?_|intro _
  refine reE ?_
  rfl
 ·rw [if_pos rfl,← arr_t hr]
  repeat' first|refine Zz ?_|intro _
  refine reE ?_
  rfl⟩
instance fnR17Arr {q:Int}{s k d:Bs}{a:Wd}{f g:Bs}{h t:Int}:Ans Tryz.prog GL 333 [.agg 12 [int q,str s,str k,.agg 7 [str d,widA a,str f,str g],int h,int t]] (s.length≤1000000000∧d.length≤1000000000∧k.length≤1000000000) (str (arrP ⟨q,s,k,d,a,f,g,h,t⟩)):=⟨fun hp=>by
 obtain⟨h1,h2,h3⟩:=hp
 have hl:(k++[47]).length=k.length + 1:=by rw [List.length_append];rfl
 show Av.Spec _ _ _ _ _ fun v m'=>v=str (if retB s d=true then d.drop (s.length + 1) else k++[47]++d)∧m'=[]
 refine spec_enter Tryz.func333 rfl Tryz.ntmps333 rfl (fun _ hs=>?_)
 repeat' first|refine Zz ?_|intro _
 cases hr:retB s d
 ·rw [if_neg (show ¬ false=true by decide)]
  repeat' first|refine Zz ?_|intro _
  refine reE ?_
  rfl
 ·rw [if_pos rfl,← arr_t hr]
  repeat' first|refine Zz ?_|intro _
  refine reE ?_
  rfl⟩
abbrev mvA (d:Bs)(a:Wd)(f g:Bs):AV:=.agg 7 [.agg 7 [str d,widA a,str f,str g]]
instance fnMvMove {e:List Ent}{d:Bs}{n:Wd}{f g a b c:Bs}{xs:List AV}[hx:Ents xs e]:Ans Tryz.prog GL 314 [.agg 7 [.agg 7 [str d,widA n,str f,str g]],.agg 1 [.sl 2 xs none],str a,str b,str c] (DOk e) (.tup [dA (moveR e a b c n).1,int (moveR e a b c n).2]):=⟨fun hd=>by
 have h:=hx.out
 subst h
 refine spec_enter Tryz.func314 rfl Tryz.ntmps314 rfl (fun _ hs=>?_)
 repeat' first|refine Zz ?_|intro _
 refine reE ?_
 rfl⟩
instance fnMvMint {e:List Ent}{d:Bs}{n:Wd}{f g a c:Bs}{xs:List AV}[hx:Ents xs e]:Ans Tryz.prog GL 321 [.agg 7 [.agg 7 [str d,widA n,str f,str g]],.agg 1 [.sl 2 xs none],str a,str c] (DOk e) (.tup [dA (mintR e a c n).1,int (mintR e a c n).2]):=⟨fun hd=>by
 have h:=hx.out
 subst h
 refine spec_enter Tryz.func321 rfl Tryz.ntmps321 rfl (fun _ hs=>?_)
 repeat' first|refine Zz ?_|intro _
 refine reE ?_
 rfl⟩
def Goes (F:FuncId)(cs:List Value)(m:List Av.Piece)(M:AV)(r:List Ent × Int):Prop:=Av.Spec Tryz.prog GL F (M::cs.map .lit) m fun u m'=>u=.tup [dA r.1,int r.2]∧m'=m
set_option maxHeartbeats 1000000 in
theorem tdoes_spec {f1 f2:FuncId}[FnB Tryz.prog f1][FnB Tryz.prog f2]{cs1 cs2:List Value}{m:List Av.Piece}{r1 r2:List Ent × Int}{q:Int}{s k d:Bs}{a:Wd}{f g:Bs}{h t:Int}(h1:Goes f1 cs1 m (mvA d a f g) r1)(h2:Goes f2 cs2 m (mvA d a f g) r2)(hc1:∀ v ∈ cs1,v.oneCell'=true)(hc2:∀ v ∈ cs2,v.oneCell'=true)(hp:s.length≤1000000000∧d.length≤1000000000){R:List Ent × Int}
  (hR:R=if chkP ⟨q,s,k,d,a,f,g,h,t⟩=false then ([],1) else if homeP ⟨q,s,k,d,a,f,g,h,t⟩=true then r1 else r2) :
  Av.Spec Tryz.prog GL 310 [.agg 12 [int q,str s,str k,.agg 7 [str d,widA a,str f,str g],int h,int t],fnv f1 cs1,fnv f2 cs2] m fun u m'=>u=.tup [dA R.1,int R.2]∧m'=m:=by
 subst hR
 refine spec_enter Tryz.func310 rfl Tryz.ntmps310 rfl (fun _ hs=>?_)
 repeat' first|refine Zz ?_|intro _
 rename_i g3 g2 g1
 unfold chkN
 cases hc:chkP ⟨q,s,k,d,a,f,g,h,t⟩
 ·rw [if_neg (show ¬ false=true by decide),if_pos rfl,decide_eq_true (show (1:Int)≠0 by decide)]
  repeat' first|refine Zz ?_|intro _
  refine reIKm _ m (dnil_imp _) ⟨rfl,rfl⟩ ?_
  exact sbl
 rw [if_pos rfl,if_neg (show ¬ true=false by decide),decide_eq_false (show ¬ (0:Int)≠0 by decide)]
 repeat' first|refine Zz ?_|intro _
 cases hh:homeP ⟨q,s,k,d,a,f,g,h,t⟩
 ·rw [if_neg (show ¬ false=true by decide)]
  repeat' first|refine Zz ?_|intro _
  refine al_callV (args:=[mvA d a f g]) (cs:=cs2) m [Av.Piece.var g1 329 (mvA d a f g),.var g2 61 (.agg 1 [.lit (.slice none 0 0)]),.var g3 47 (.agg 12 [int q,str s,str k,.agg 7 [str d,widA a,str f,str g],int h,int t])] (by rw [hs];exact h2) (fun u m' hh=>?_) (List.perm_append_comm (l₁:=[Av.Piece.var g1 329 (mvA d a f g),.var g2 61 (.agg 1 [.lit (.slice none 0 0)]),.var g3 47 (.agg 12 [int q,str s,str k,.agg 7 [str d,widA a,str f,str g],int h,int t])]) (l₂:=m)) (hcs:=hc2)
  obtain⟨rfl,rfl⟩:=hh
  refine al_st (fun ok w hS=>hS.perm (m':=[Av.Piece.var g1 329 (mvA d a f g),.var g2 61 (.agg 1 [.lit (.slice none 0 0)]),.var g3 47 (.agg 12 [int q,str s,str k,.agg 7 [str d,widA a,str f,str g],int h,int t])]++m') List.perm_append_comm) ?_
  repeat' first|refine Zz ?_|intro _
  refine reK m' ⟨rfl,rfl⟩ ?_
  exact sbl
 ·rw [if_pos rfl]
  repeat' first|refine Zz ?_|intro _
  refine al_callV (args:=[mvA d a f g]) (cs:=cs1) m [Av.Piece.var g1 329 (mvA d a f g),.var g2 61 (.agg 1 [.lit (.slice none 0 0)]),.var g3 47 (.agg 12 [int q,str s,str k,.agg 7 [str d,widA a,str f,str g],int h,int t])] (by rw [hs];exact h1) (fun u m' hh=>?_) (List.perm_append_comm (l₁:=[Av.Piece.var g1 329 (mvA d a f g),.var g2 61 (.agg 1 [.lit (.slice none 0 0)]),.var g3 47 (.agg 12 [int q,str s,str k,.agg 7 [str d,widA a,str f,str g],int h,int t])]) (l₂:=m)) (hcs:=hc1)
  obtain⟨rfl,rfl⟩:=hh
  refine al_st (fun ok w hS=>hS.perm (m':=[Av.Piece.var g1 329 (mvA d a f g),.var g2 61 (.agg 1 [.lit (.slice none 0 0)]),.var g3 47 (.agg 12 [int q,str s,str k,.agg 7 [str d,widA a,str f,str g],int h,int t])]++m') List.perm_append_comm) ?_
  repeat' first|refine Zz ?_|intro _
  refine reK m' ⟨rfl,rfl⟩ ?_
  exact sbl
end Go.Proofs.YtppngnhckahbnaaGreatDoor

namespace Go.Proofs.YtppngnhckahbnaaGreatDoor
open Go Go.RowKit Tw Av
section
variable {e:List Ent} {q:Int} {s k d:Bs} {a:Wd} {f g:Bs} {h t:Int} {g1 g2 g3:Nat} {z:Bs}
abbrev gE (g:Nat)(e:List Ent):Av.Piece:=.var g 61 (dA e)
abbrev gP (g:Nat)(q:Int)(s k d:Bs)(a:Wd)(f g':Bs)(h t:Int):Av.Piece:=.var g 47 (.agg 12 [int q,str s,str k,.agg 7 [str d,widA a,str f,str g'],int h,int t])
theorem send1 (hd:DOk e):Goes 311 [.pointer (some ⟨g1,0,none⟩)] [gP g2 q s k d a f g h t,gE g1 e] (mvA d a f g) (burnR e f d a):=by
 show Av.Spec _ _ _ [mvA d a f g,ptr g1] _ _
 refine spec_enter Tryz.func311 rfl Tryz.ntmps311 rfl (fun _ hs=>?_)
 repeat' first|refine Zz ?_|intro _
 refine reK _ ⟨rfl,rfl⟩ ?_
 exact sbl
theorem send2 (hd:DOk e)(hs1:s.length≤1000000000):Goes 313 [.pointer (some ⟨g1,0,none⟩),.pointer (some ⟨g2,0,none⟩)] [gP g2 q s k d a f g h t,gE g1 e] (mvA d a f g) (moveR e f (escB s) d a):=by
 show Av.Spec _ _ _ [mvA d a f g,ptr g1,ptr g2] _ _
 refine spec_enter Tryz.func313 rfl Tryz.ntmps313 rfl (fun _ hs=>?_)
 repeat' first|refine Zz ?_|intro _
 refine reK _ ⟨rfl,rfl⟩ ?_
 exact sbl
theorem back1 (hd:DOk e):Goes 364 [.pointer (some ⟨g1,0,none⟩)] [gP g2 q s k d a f g h t,gE g1 e] (mvA d a f g) (mintR e f d a):=by
 show Av.Spec _ _ _ [mvA d a f g,ptr g1] _ _
 refine spec_enter Tryz.func364 rfl Tryz.ntmps364 rfl (fun _ hs=>?_)
 repeat' first|refine Zz ?_|intro _
 refine reK _ ⟨rfl,rfl⟩ ?_
 exact sbl
theorem back2 (hd:DOk e)(hs1:s.length≤1000000000):Goes 365 [.pointer (some ⟨g1,0,none⟩),.pointer (some ⟨g2,0,none⟩)] [gP g2 q s k d a f g h t,gE g1 e] (mvA d a f g) (moveR e (escB s) f d a):=by
 show Av.Spec _ _ _ [mvA d a f g,ptr g1,ptr g2] _ _
 refine spec_enter Tryz.func365 rfl Tryz.ntmps365 rfl (fun _ hs=>?_)
 repeat' first|refine Zz ?_|intro _
 refine reK _ ⟨rfl,rfl⟩ ?_
 exact sbl
theorem recv1 (hd:DOk e)(hs1:k.length≤1000000000):Goes 319 [.pointer (some ⟨g1,0,none⟩),.pointer (some ⟨g2,0,none⟩),.pointer (some ⟨g3,0,none⟩)] [.var g3 9 (str z),gP g2 q s k d a f g h t,gE g1 e] (mvA d a f g) (moveR e (escB k) g z a):=by
 show Av.Spec _ _ _ [mvA d a f g,ptr g1,ptr g2,ptr g3] _ _
 refine spec_enter Tryz.func319 rfl Tryz.ntmps319 rfl (fun _ hs=>?_)
 repeat' first|refine Zz ?_|intro _
 refine reK _ ⟨rfl,rfl⟩ ?_
 exact sbl
theorem recv2 (hd:DOk e):Goes 320 [.pointer (some ⟨g1,0,none⟩),.pointer (some ⟨g3,0,none⟩)] [.var g3 9 (str z),gP g2 q s k d a f g h t,gE g1 e] (mvA d a f g) (mintR e g z a):=by
 show Av.Spec _ _ _ [mvA d a f g,ptr g1,ptr g3] _ _
 refine spec_enter Tryz.func320 rfl Tryz.ntmps320 rfl (fun _ hs=>?_)
 repeat' first|refine Zz ?_|intro _
 refine reK _ ⟨rfl,rfl⟩ ?_
 exact sbl
end
theorem or_cond {c:Bool}{α:Type}{a b:α}:(if true=false∨c=false then a else b)=if c=false then a else b:=by cases c <;> rfl
theorem arr_len {q:Int}{s k d:Bs}{a:Wd}{f g:Bs}{h t:Int}(h1:d.length≤400000000)(h2:k.length≤400000000):(arrP ⟨q,s,k,d,a,f,g,h,t⟩).length≤1000000000:=by
 unfold arrP
 split
 ·rw [List.length_drop]
  show d.length - _≤_
  omega
 ·rw [List.length_append,List.length_append]
  show k.length + 1 + d.length≤_
  omega
set_option maxHeartbeats 1000000 in
instance fnTSend {e:List Ent}{q:Int}{s k d:Bs}{a:Wd}{f g:Bs}{h t:Int}{xs:List AV}[hx:Ents xs e]:Ans Tryz.prog GL 223 [.agg 1 [.sl 2 xs none],.agg 12 [int q,str s,str k,.agg 7 [str d,widA a,str f,str g],int h,int t]] (DOk e∧s.length≤1000000000∧d.length≤1000000000) (.tup [dA (sendR e ⟨q,s,k,d,a,f,g,h,t⟩).1,int (sendR e ⟨q,s,k,d,a,f,g,h,t⟩).2]):=⟨fun hp=>by
 obtain⟨hd,hs1,hd1⟩:=hp
 have h':=hx.out
 subst h'
 refine spec_enter Tryz.func223 rfl Tryz.ntmps223 rfl (fun _ hs=>?_)
 repeat' first|refine Zz ?_|intro _
 rename_i g1 g2 g3
 refine al_makeFunc (vs:=[.pointer (some ⟨g1,0,none⟩)]) ?_
 refine al_makeFunc (vs:=[.pointer (some ⟨g1,0,none⟩),.pointer (some ⟨g2,0,none⟩)]) ?_
 refine al_callK (args:=[.agg 12 [int q,str s,str k,.agg 7 [str d,widA a,str f,str g],int h,int t],fnv 311 [.pointer (some ⟨g1,0,none⟩)],fnv 313 [.pointer (some ⟨g1,0,none⟩),.pointer (some ⟨g2,0,none⟩)]]) [gP g2 q s k d a f g h t,gE g1 e] [.var g3 61 (.agg 1 [.lit (.slice none 0 0)])] (by rw [hs];exact tdoes_spec (send1 hd) (send2 hd hs1) (by simp [Value.oneCell']) (by simp [Value.oneCell']) ⟨hs1,hd1⟩ (R:=sendR e ⟨q,s,k,d,a,f,g,h,t⟩) rfl) (fun u m1 hh=>?_) (List.perm_append_comm (l₁:=[Av.Piece.var g3 61 (.agg 1 [.lit (.slice none 0 0)])]) (l₂:=[gP g2 q s k d a f g h t,gE g1 e]))
 obtain⟨rfl,rfl⟩:=hh
 repeat' first|refine Zz ?_|intro _
 refine reE ?_
 rfl⟩
set_option maxHeartbeats 1000000 in
instance fnTRefund {e:List Ent}{q:Int}{s k d:Bs}{a:Wd}{f g:Bs}{h t:Int}{xs:List AV}[hx:Ents xs e]:Ans Tryz.prog GL 323 [.agg 1 [.sl 2 xs none],.agg 12 [int q,str s,str k,.agg 7 [str d,widA a,str f,str g],int h,int t]] (DOk e∧s.length≤1000000000∧d.length≤1000000000) (.tup [dA (backR e ⟨q,s,k,d,a,f,g,h,t⟩).1,int (backR e ⟨q,s,k,d,a,f,g,h,t⟩).2]):=⟨fun hp=>by
 obtain⟨hd,hs1,hd1⟩:=hp
 have h':=hx.out
 subst h'
 refine spec_enter Tryz.func323 rfl Tryz.ntmps323 rfl (fun _ hs=>?_)
 repeat' first|refine Zz ?_|intro _
 rename_i g1 g2 g3
 refine al_makeFunc (vs:=[.pointer (some ⟨g1,0,none⟩)]) ?_
 refine al_makeFunc (vs:=[.pointer (some ⟨g1,0,none⟩),.pointer (some ⟨g2,0,none⟩)]) ?_
 refine al_callK (args:=[.agg 12 [int q,str s,str k,.agg 7 [str d,widA a,str f,str g],int h,int t],fnv 364 [.pointer (some ⟨g1,0,none⟩)],fnv 365 [.pointer (some ⟨g1,0,none⟩),.pointer (some ⟨g2,0,none⟩)]]) [gP g2 q s k d a f g h t,gE g1 e] [.var g3 61 (.agg 1 [.lit (.slice none 0 0)])] (by rw [hs];exact tdoes_spec (back1 hd) (back2 hd hs1) (by simp [Value.oneCell']) (by simp [Value.oneCell']) ⟨hs1,hd1⟩ (R:=backR e ⟨q,s,k,d,a,f,g,h,t⟩) rfl) (fun u m1 hh=>?_) (List.perm_append_comm (l₁:=[Av.Piece.var g3 61 (.agg 1 [.lit (.slice none 0 0)])]) (l₂:=[gP g2 q s k d a f g h t,gE g1 e]))
 obtain⟨rfl,rfl⟩:=hh
 repeat' first|refine Zz ?_|intro _
 refine reE ?_
 rfl⟩
set_option maxHeartbeats 1000000 in
instance fnTRecv {e:List Ent}{q:Int}{s k d:Bs}{a:Wd}{f g:Bs}{h t:Int}{xs:List AV}[hx:Ents xs e]:Ans Tryz.prog GL 231 [.agg 1 [.sl 2 xs none],.agg 12 [int q,str s,str k,.agg 7 [str d,widA a,str f,str g],int h,int t]] (DOk e∧s.length≤400000000∧d.length≤400000000∧k.length≤400000000) (.tup [dA (recvR e ⟨q,s,k,d,a,f,g,h,t⟩).1,int (recvR e ⟨q,s,k,d,a,f,g,h,t⟩).2]):=⟨fun hp=>by
 obtain⟨hd,hs1,hd1,hk1⟩:=hp
 have h':=hx.out
 subst h'
 have hal:(arrP ⟨q,s,k,d,a,f,g,h,t⟩).length≤1000000000:=arr_len hd1 hk1
 refine spec_enter Tryz.func231 rfl Tryz.ntmps231 rfl (fun _ hs=>?_)
 repeat' first|refine Zz ?_|intro _
 generalize hz:arrP ⟨q,s,k,d,a,f,g,h,t⟩=z at hal ⊢
 repeat' first|refine Zz ?_|intro _
 rename_i g1 g2 g3 g4
 have hR:recvR e ⟨q,s,k,d,a,f,g,h,t⟩=if denB z=false∨chkP ⟨q,s,k,d,a,f,g,h,t⟩=false then ([],1) else if homeP ⟨q,s,k,d,a,f,g,h,t⟩=true then moveR e (escB k) g z a else mintR e g z a:=by
  unfold recvR
  rw [hz]
 rw [hR]
 cases hb:denB z
 ·rw [if_pos (.inl rfl)]
  repeat' first|refine Zz ?_|intro _
  refine reI ?_
  exact dnil_imp _
 rw [or_cond]
 repeat' first|refine Zz ?_|intro _
 refine al_makeFunc (vs:=[.pointer (some ⟨g1,0,none⟩),.pointer (some ⟨g2,0,none⟩),.pointer (some ⟨g4,0,none⟩)]) ?_
 refine al_makeFunc (vs:=[.pointer (some ⟨g1,0,none⟩),.pointer (some ⟨g4,0,none⟩)]) ?_
 refine al_callK (args:=[.agg 12 [int q,str s,str k,.agg 7 [str d,widA a,str f,str g],int h,int t],fnv 319 [.pointer (some ⟨g1,0,none⟩),.pointer (some ⟨g2,0,none⟩),.pointer (some ⟨g4,0,none⟩)],fnv 320 [.pointer (some ⟨g1,0,none⟩),.pointer (some ⟨g4,0,none⟩)]]) [.var g4 9 (str z),gP g2 q s k d a f g h t,gE g1 e] [.var g3 61 (.agg 1 [.lit (.slice none 0 0)])] (by rw [hs];exact tdoes_spec (recv1 hd (by omega)) (recv2 hd) (by simp [Value.oneCell']) (by simp [Value.oneCell']) ⟨by omega,by omega⟩ rfl) (fun u m1 hh=>?_) (List.Perm.cons _ (List.perm_append_comm (l₁:=[Av.Piece.var g3 61 (.agg 1 [.lit (.slice none 0 0)])]) (l₂:=[gP g2 q s k d a f g h t,gE g1 e])))
 obtain⟨rfl,rfl⟩:=hh
 repeat' first|refine Zz ?_|intro _
 refine reE ?_
 rfl⟩
set_option maxHeartbeats 1000000 in
instance fnR17Send {e:List Ent}{q:Int}{s k d:Bs}{a:Wd}{f g:Bs}{h t:Int}{xs:List AV}{id:Option Value}[hx:Ents xs e]:Ans Tryz.prog GL 254 [.sl 2 xs id,.agg 12 [int q,str s,str k,.agg 7 [str d,widA a,str f,str g],int h,int t]] (DOk e∧s.length≤1000000000∧k.length≤1000000000∧d.length≤1000000000∧f.length≤1000000000∧g.length≤1000000000) (.tup [dSl (sendR e ⟨q,s,k,d,a,f,g,h,t⟩).1,int (sendR e ⟨q,s,k,d,a,f,g,h,t⟩).2]):=⟨fun hp=>by
 obtain⟨hd,hs1,hk1,hd1,hf1,hg1⟩:=hp
 show Av.Spec _ _ _ _ _ fun v m'=>v=.tup [dSl (if chkP ⟨q,s,k,d,a,f,g,h,t⟩=false then ([],1) else if homeP ⟨q,s,k,d,a,f,g,h,t⟩=true then burnR e f d a else moveR e f (escB s) d a).1,int (if chkP ⟨q,s,k,d,a,f,g,h,t⟩=false then ([],1) else if homeP ⟨q,s,k,d,a,f,g,h,t⟩=true then burnR e f d a else moveR e f (escB s) d a).2]∧m'=[]
 refine spec_enter Tryz.func254 rfl Tryz.ntmps254 rfl (fun _ hs=>?_)
 repeat' first|refine Zz ?_|intro _
 unfold chkN
 cases hc:chkP ⟨q,s,k,d,a,f,g,h,t⟩
 ·rw [if_neg (show ¬ false=true by decide),if_pos rfl,decide_eq_true (show (1:Int)≠0 by decide)]
  repeat' first|refine Zz ?_|intro _
  refine reI ?_
  exact nil_imp _
 rw [if_pos rfl,if_neg (show ¬ true=false by decide),decide_eq_false (show ¬ (0:Int)≠0 by decide)]
 repeat' first|refine Zz ?_|intro _
 cases hh:homeP ⟨q,s,k,d,a,f,g,h,t⟩
 ·rw [if_neg (show ¬ false=true by decide)]
  repeat' first|refine Zz ?_|intro _
  refine reE ?_
  rfl
 ·rw [if_pos rfl]
  repeat' first|refine Zz ?_|intro _
  refine reE ?_
  rfl⟩
set_option maxHeartbeats 1000000 in
instance fnR17Refund {e:List Ent}{q:Int}{s k d:Bs}{a:Wd}{f g:Bs}{h t:Int}{xs:List AV}{id:Option Value}[hx:Ents xs e]:Ans Tryz.prog GL 259 [.sl 2 xs id,.agg 12 [int q,str s,str k,.agg 7 [str d,widA a,str f,str g],int h,int t]] (DOk e∧s.length≤1000000000∧k.length≤1000000000∧d.length≤1000000000∧f.length≤1000000000∧g.length≤1000000000) (.tup [dSl (backR e ⟨q,s,k,d,a,f,g,h,t⟩).1,int (backR e ⟨q,s,k,d,a,f,g,h,t⟩).2]):=⟨fun hp=>by
 obtain⟨hd,hs1,hk1,hd1,hf1,hg1⟩:=hp
 show Av.Spec _ _ _ _ _ fun v m'=>v=.tup [dSl (if chkP ⟨q,s,k,d,a,f,g,h,t⟩=false then ([],1) else if homeP ⟨q,s,k,d,a,f,g,h,t⟩=true then mintR e f d a else moveR e (escB s) f d a).1,int (if chkP ⟨q,s,k,d,a,f,g,h,t⟩=false then ([],1) else if homeP ⟨q,s,k,d,a,f,g,h,t⟩=true then mintR e f d a else moveR e (escB s) f d a).2]∧m'=[]
 refine spec_enter Tryz.func259 rfl Tryz.ntmps259 rfl (fun _ hs=>?_)
 repeat' first|refine Zz ?_|intro _
 unfold chkN
 cases hc:chkP ⟨q,s,k,d,a,f,g,h,t⟩
 ·rw [if_neg (show ¬ false=true by decide),if_pos rfl,decide_eq_true (show (1:Int)≠0 by decide)]
  repeat' first|refine Zz ?_|intro _
  refine reI ?_
  exact nil_imp _
 rw [if_pos rfl,if_neg (show ¬ true=false by decide),decide_eq_false (show ¬ (0:Int)≠0 by decide)]
 repeat' first|refine Zz ?_|intro _
 cases hh:homeP ⟨q,s,k,d,a,f,g,h,t⟩
 ·rw [if_neg (show ¬ false=true by decide)]
  repeat' first|refine Zz ?_|intro _
  refine reE ?_
  rfl
 ·rw [if_pos rfl]
  repeat' first|refine Zz ?_|intro _
  refine reE ?_
  rfl⟩
set_option maxHeartbeats 1000000 in
instance fnR17Recv {e:List Ent}{q:Int}{s k d:Bs}{a:Wd}{f g:Bs}{h t:Int}{xs:List AV}{id:Option Value}[hx:Ents xs e]:Ans Tryz.prog GL 256 [.sl 2 xs id,.agg 12 [int q,str s,str k,.agg 7 [str d,widA a,str f,str g],int h,int t]] (DOk e∧s.length≤400000000∧k.length≤400000000∧d.length≤400000000∧f.length≤400000000∧g.length≤400000000) (.tup [dSl (recvR e ⟨q,s,k,d,a,f,g,h,t⟩).1,int (recvR e ⟨q,s,k,d,a,f,g,h,t⟩).2]):=⟨fun hp=>by
 obtain⟨hd,hs1,hk1,hd1,hf1,hg1⟩:=hp
 have hal:(arrP ⟨q,s,k,d,a,f,g,h,t⟩).length≤1000000000:=arr_len hd1 hk1
 refine spec_enter Tryz.func256 rfl Tryz.ntmps256 rfl (fun _ hs=>?_)
 repeat' first|refine Zz ?_|intro _
 generalize hz:arrP ⟨q,s,k,d,a,f,g,h,t⟩=z at hal ⊢
 have hR:recvR e ⟨q,s,k,d,a,f,g,h,t⟩=if denB z=false∨chkP ⟨q,s,k,d,a,f,g,h,t⟩=false then ([],1) else if homeP ⟨q,s,k,d,a,f,g,h,t⟩=true then moveR e (escB k) g z a else mintR e g z a:=by
  unfold recvR
  rw [hz]
 rw [hR]
 repeat' first|refine Zz ?_|intro _
 unfold chkN
 cases hc:chkP ⟨q,s,k,d,a,f,g,h,t⟩
 ·rw [if_neg (show ¬ false=true by decide),if_pos (.inr rfl),decide_eq_true (show (1:Int)≠0 by decide)]
  repeat' first|refine Zz ?_|intro _
  refine reI ?_
  exact nil_imp _
 rw [if_pos rfl,decide_eq_false (show ¬ (0:Int)≠0 by decide)]
 cases hb:denB z
 ·rw [if_pos (.inl rfl)]
  repeat' first|refine Zz ?_|intro _
  refine reI ?_
  exact nil_imp _
 rw [or_cond,if_neg (show ¬ true=false by decide)]
 repeat' first|refine Zz ?_|intro _
 cases hh:homeP ⟨q,s,k,d,a,f,g,h,t⟩
 ·rw [if_neg (show ¬ false=true by decide)]
  repeat' first|refine Zz ?_|intro _
  refine reE ?_
  rfl
 ·rw [if_pos rfl]
  repeat' first|refine Zz ?_|intro _
  refine reE ?_
  rfl⟩
end Go.Proofs.YtppngnhckahbnaaGreatDoor
