/- the core, walked: answers and what came too late -/
import Derived.Test.YtlmcongmglfaeaaGreatDoorA27
import Derived.Test.YtlmcongmglfaeaaGreatDoorA28
import Derived.Test.YtlmcongmglfaeaaGreatDoorA29
import Derived.Test.YtlmcongmglfaeaaGreatDoorA31
import Derived.Test.YtlmcongmglfaeaaGreatDoorA33
import Derived.Test.YtlmcongmglfaeaaGreatDoorA35
import Derived.Test.YtlmcongmglfaeaaGreatDoorA36
namespace Go.Proofs.YtlmcongmglfaeaaGreatDoor
open Go Go.RowKit Tw Av
attribute [local irreducible] nameB dnmB wIs
theorem may1 {a c:Bs}{n:Wd}:([a].all nameB && (dnmB c && decide (n.n≠0)))=false↔nameB a=false\/dnmB c=false\/n.n=0:=by
 simp only [List.all_cons,List.all_nil,Bool.and_true]
 by_cases h:n.n=0 <;> cases nameB a <;> cases dnmB c <;> simp [h]
theorem may2 {a b c:Bs}{n:Wd}:([a,b].all nameB && (dnmB c && decide (n.n≠0)))=false↔nameB a=false\/nameB b=false\/dnmB c=false\/n.n=0:=by
 simp only [List.all_cons,List.all_nil,Bool.and_true]
 by_cases h:n.n=0 <;> cases nameB a <;> cases nameB b <;> cases dnmB c <;> simp [h]
theorem one_cells {g1 g2:Nat}:∀ v ∈ [Value.pointer (some ⟨g1,0,none⟩),.pointer (some ⟨g2,0,none⟩)],v.oneCell'=true:=by simp [Value.oneCell']
set_option maxHeartbeats 4000000 in
instance fnBMint {d:List Ent}{a c:Bs}{n:Wd}{xs:List AV}[hx:Ents xs d]:Ans Tryz.prog GL 200 [.agg 1 [.sl 2 xs none],str a,str c,widA n] (DOk d) (.tup [dA (mintR d a c n).1,int (mintR d a c n).2]):=⟨fun hd=>by
 have h:=hx.out
 subst h
 refine qE Tryz.func200 rfl Tryz.ntmps200 rfl (fun _ hs=>?_)
 repeat' first|refine Zz ?_|intro _
 unfold mintR
 cases h1:[a].all nameB && (dnmB c && decide (n.n≠0))
 ·rw [if_pos (may1.1 h1)]
  repeat' first|refine Zz ?_|intro _
  refine reI ?_
  exact dnil_imp _
 rw [if_neg (fun e=>by rw [may1.2 e] at h1;cases h1)]
 repeat' first|refine Zz ?_|intro _
 cases h2:wIs ((getW d (balK a c)).n + n.n)
 ·rw [if_pos rfl]
  repeat' first|refine Zz ?_|intro _
  refine reI ?_
  exact dnil_imp _
 rw [if_neg (by decide)]
 repeat' (first|refine ct1 ?_|refine op1 ?_|refine opL ?_|refine op2 ?_|intro _)
 refine ac_perm [0,1,2,3,5,6,8,4,7,9,10,11,12,13,14,15] (by kernel_rfl) rfl hs (by kernel_rfl) ?_
 repeat' first|refine Vz ?_|intro _
 apply obl_fresh [];exact rfl;exact rfl;kernel_rfl;kernel_rfl
 intro s' hs'
 refine al_callK (args:=[str (totK c),widA n]) [] _ (by rw [hs'];exact more_spec) (fun u m1 hh=>?_) lpr
 obtain⟨k1,n1,rfl,rfl⟩:=hh
 refine al_nil (ae_fresh [] [.var n1 43 (widA n),.var k1 9 (str (totK c))] rfl rfl lpr rfl ?_)
 repeat' first|refine Vz ?_|intro _
 apply obl_fresh [];exact rfl;exact rfl;kernel_rfl;kernel_rfl
 intro s' hs'
 refine al_callK (args:=[str (balK a c),widA n]) [] _ (by rw [hs'];exact more_spec) (fun u m1 hh=>?_) lpr
 obtain⟨k2,n2,rfl,rfl⟩:=hh
 refine al_nil (ae_fresh [] [.var n2 43 (widA n),.var k2 9 (str (balK a c))] rfl rfl lpr rfl ?_)
 repeat' first|refine Vz ?_|intro _
 apply obl_read [4,5,6,7];exact rfl;exact rfl;kernel_rfl;intro s' hs'
 refine al_callK (args:=[dA d,.sl 1 [fnv 345 [.pointer (some ⟨k1,0,none⟩),.pointer (some ⟨n1,0,none⟩)],fnv 345 [.pointer (some ⟨k2,0,none⟩),.pointer (some ⟨n2,0,none⟩)]] none]) [.var n1 43 (widA n),.var k1 9 (str (totK c)),.var n2 43 (widA n),.var k2 9 (str (balK a c))] [] (by rw [hs'];exact does_spec (m1:=[.var n1 43 (widA n),.var k1 9 (str (totK c))]) (m2:=[.var n2 43 (widA n),.var k2 9 (str (balK a c))]) more_does more_does one_cells one_cells hd (moreR_dok hd)) (fun u m1 hh=>?_) lpr
 obtain⟨rfl,rfl⟩:=hh
 exact al_nil (ae_got rfl rfl)
 repeat' first|refine Vz ?_|intro _
 refine reE ?_
 rfl⟩
set_option maxHeartbeats 4000000 in
instance fnBBurn {d:List Ent}{a c:Bs}{n:Wd}{xs:List AV}[hx:Ents xs d]:Ans Tryz.prog GL 304 [.agg 1 [.sl 2 xs none],str a,str c,widA n] (DOk d) (.tup [dA (burnR d a c n).1,int (burnR d a c n).2]):=⟨fun hd=>by
 have h:=hx.out
 subst h
 refine qE Tryz.func304 rfl Tryz.ntmps304 rfl (fun _ hs=>?_)
 repeat' first|refine Zz ?_|intro _
 unfold burnR
 cases h1:[a].all nameB && (dnmB c && decide (n.n≠0))
 ·rw [if_pos (may1.1 h1)]
  repeat' first|refine Zz ?_|intro _
  refine reI ?_
  exact dnil_imp _
 rw [if_neg (fun e=>by rw [may1.2 e] at h1;cases h1)]
 repeat' (first|refine ct1 ?_|refine op1 ?_|refine opL ?_|refine op2 ?_|intro _)
 refine ac_perm [0,1,2,3,5,6,8,4,7,9,10,11,12,13,14,15] (by kernel_rfl) rfl hs (by kernel_rfl) ?_
 repeat' first|refine Vz ?_|intro _
 apply obl_fresh [];exact rfl;exact rfl;kernel_rfl;kernel_rfl
 intro s' hs'
 refine al_callK (args:=[str (totK c),widA n]) [] _ (by rw [hs'];exact less_spec) (fun u m1 hh=>?_) lpr
 obtain⟨k1,n1,rfl,rfl⟩:=hh
 refine al_nil (ae_fresh [] [.var n1 43 (widA n),.var k1 9 (str (totK c))] rfl rfl lpr rfl ?_)
 repeat' first|refine Vz ?_|intro _
 apply obl_fresh [];exact rfl;exact rfl;kernel_rfl;kernel_rfl
 intro s' hs'
 refine al_callK (args:=[str (balK a c),widA n]) [] _ (by rw [hs'];exact less_spec) (fun u m1 hh=>?_) lpr
 obtain⟨k2,n2,rfl,rfl⟩:=hh
 refine al_nil (ae_fresh [] [.var n2 43 (widA n),.var k2 9 (str (balK a c))] rfl rfl lpr rfl ?_)
 repeat' first|refine Vz ?_|intro _
 apply obl_read [3,4,5,6];exact rfl;exact rfl;kernel_rfl;intro s' hs'
 refine al_callK (args:=[dA d,.sl 1 [fnv 346 [.pointer (some ⟨k1,0,none⟩),.pointer (some ⟨n1,0,none⟩)],fnv 346 [.pointer (some ⟨k2,0,none⟩),.pointer (some ⟨n2,0,none⟩)]] none]) [.var n1 43 (widA n),.var k1 9 (str (totK c)),.var n2 43 (widA n),.var k2 9 (str (balK a c))] [] (by rw [hs'];exact does_spec (m1:=[.var n1 43 (widA n),.var k1 9 (str (totK c))]) (m2:=[.var n2 43 (widA n),.var k2 9 (str (balK a c))]) less_does less_does one_cells one_cells hd (lessR_dok hd)) (fun u m1 hh=>?_) lpr
 obtain⟨rfl,rfl⟩:=hh
 exact al_nil (ae_got rfl rfl)
 repeat' first|refine Vz ?_|intro _
 refine reE ?_
 rfl⟩
set_option maxHeartbeats 4000000 in
instance fnBMove {d:List Ent}{a b c:Bs}{n:Wd}{xs:List AV}[hx:Ents xs d]:Ans Tryz.prog GL 202 [.agg 1 [.sl 2 xs none],str a,str b,str c,widA n] (DOk d) (.tup [dA (moveR d a b c n).1,int (moveR d a b c n).2]):=⟨fun hd=>by
 have h:=hx.out
 subst h
 refine qE Tryz.func202 rfl Tryz.ntmps202 rfl (fun _ hs=>?_)
 repeat' first|refine Zz ?_|intro _
 unfold moveR
 cases h1:[a,b].all nameB && (dnmB c && decide (n.n≠0))
 ·rw [if_pos (may2.1 h1)]
  repeat' first|refine Zz ?_|intro _
  refine reI ?_
  exact dnil_imp _
 rw [if_neg (fun e=>by rw [may2.2 e] at h1;cases h1)]
 repeat' (first|refine ct1 ?_|refine op1 ?_|refine opL ?_|refine op2 ?_|intro _)
 refine ac_perm [0,1,2,4,6,7,9,3,5,8,10,11,12,13,14,15,16,17,18] (by kernel_rfl) rfl hs (by kernel_rfl) ?_
 repeat' first|refine Vz ?_|intro _
 apply obl_freshF [61] [];exact rfl;exact rfl;kernel_rfl;kernel_rfl;kernel_rfl;exact⟨⟨_,inferInstance⟩,trivial⟩
 intro s' hs'
 refine al_callK (args:=[str (balK a c),widA n]) [] _ (by rw [hs'];exact less_spec) (fun u m1 hh=>?_) lpr
 obtain⟨k1,n1,rfl,rfl⟩:=hh
 refine al_nil (ae_fresh [] [.var n1 43 (widA n),.var k1 9 (str (balK a c))] rfl rfl lpr rfl ?_)
 repeat' first|refine Vz ?_|intro _
 apply obl_freshF [61] [];exact rfl;exact rfl;kernel_rfl;kernel_rfl;kernel_rfl;exact⟨⟨_,inferInstance⟩,trivial⟩
 intro s' hs'
 refine al_callK (args:=[str (balK b c),widA n]) [] _ (by rw [hs'];exact more_spec) (fun u m1 hh=>?_) lpr
 obtain⟨k2,n2,rfl,rfl⟩:=hh
 refine al_nil (ae_fresh [] [.var n2 43 (widA n),.var k2 9 (str (balK b c))] rfl rfl lpr rfl ?_)
 repeat' first|refine Vz ?_|intro _
 apply obl_read [3,4,5,6];exact rfl;exact rfl;kernel_rfl;intro s' hs'
 refine al_callK (args:=[dA d,.sl 1 [fnv 346 [.pointer (some ⟨k1,0,none⟩),.pointer (some ⟨n1,0,none⟩)],fnv 345 [.pointer (some ⟨k2,0,none⟩),.pointer (some ⟨n2,0,none⟩)]] none]) [.var n1 43 (widA n),.var k1 9 (str (balK a c)),.var n2 43 (widA n),.var k2 9 (str (balK b c))] [] (by rw [hs'];exact does_spec (m1:=[.var n1 43 (widA n),.var k1 9 (str (balK a c))]) (m2:=[.var n2 43 (widA n),.var k2 9 (str (balK b c))]) less_does more_does one_cells one_cells hd (lessR_dok hd)) (fun u m1 hh=>?_) lpr
 obtain⟨rfl,rfl⟩:=hh
 exact al_nil (ae_got rfl rfl)
 iterate 3 refine ob1 ?_
 apply obl_float [61];kernel_rfl;kernel_rfl;kernel_rfl;exact⟨⟨_,inferInstance⟩,trivial⟩;intro g3
 repeat' first|refine Vz ?_|intro _
 generalize hR:thenR (lessR (balK a c) n) (moreR (balK b c) n) d=R
 by_cases hab:a=b
 ·rw [dT hab]
  repeat' first|refine Vz ?_|intro _
  by_cases he:R.2=16
  ·rw [dZ (nni he)]
   repeat' first|refine Vz ?_|intro _
   refine reE ?_
   simp [hab,he]
   rfl
  ·rw [dT he]
   repeat' first|refine Vz ?_|intro _
   refine reE ?_
   simp [hab,he]
   rfl
 ·rw [dZ hab]
  repeat' first|refine Vz ?_|intro _
  refine reE ?_
  simp [hab]
  rfl⟩
end Go.Proofs.YtlmcongmglfaeaaGreatDoor

namespace Go.Proofs.YtlmcongmglfaeaaGreatDoor
open Go Go.RowKit Tw Av
instance fnTHome {q:Int}{s k d:Bs}{a:Wd}{f g:Bs}{h t:Int}:Ans Tryz.prog GL 353 [.agg 12 [int q,str s,str k,.agg 7 [str d,widA a,str f,str g],int h,int t]] (s.length<=1000000000/\d.length<=1000000000) (boo (homeP ⟨q,s,k,d,a,f,g,h,t⟩)):=⟨fun hp=>by
 refine qE Tryz.func353 rfl Tryz.ntmps353 rfl (fun _ hs=>?_)
 repeat' first|refine Zz ?_|intro _
 refine reE ?_
 rfl⟩
abbrev mvA (d:Bs)(a:Wd)(f g:Bs):AV:=.agg 7 [.agg 7 [str d,widA a,str f,str g]]
instance fnMvMove {e:List Ent}{d:Bs}{n:Wd}{f g a b c:Bs}{xs:List AV}[hx:Ents xs e]:Ans Tryz.prog GL 306 [.agg 7 [.agg 7 [str d,widA n,str f,str g]],.agg 1 [.sl 2 xs none],str a,str b,str c] (DOk e) (.tup [dA (moveR e a b c n).1,int (moveR e a b c n).2]):=⟨fun hd=>by
 have h:=hx.out
 subst h
 refine qE Tryz.func306 rfl Tryz.ntmps306 rfl (fun _ hs=>?_)
 repeat' first|refine Zz ?_|intro _
 refine reE ?_
 rfl⟩
def Goes (F:FuncId)(cs:List Value)(m:List Av.Piece)(M:AV)(r:List Ent × Int):Prop:=Av.Spec Tryz.prog GL F (M::cs.map .lit) m fun u m'=>u=.tup [dA r.1,int r.2]/\m'=m
set_option maxHeartbeats 1000000 in
theorem tdoes_spec {f1 f2:FuncId}[FnB Tryz.prog f1][FnB Tryz.prog f2]{cs1 cs2:List Value}{m:List Av.Piece}{r1 r2:List Ent × Int}{q:Int}{s k d:Bs}{a:Wd}{f g:Bs}{h t:Int}(h1:Goes f1 cs1 m (mvA d a f g) r1)(h2:Goes f2 cs2 m (mvA d a f g) r2)(hc1:∀ v ∈ cs1,v.oneCell'=true)(hc2:∀ v ∈ cs2,v.oneCell'=true)(hp:s.length<=1000000000/\d.length<=1000000000){R:List Ent × Int}
  (hR:R=if chkP ⟨q,s,k,d,a,f,g,h,t⟩=false then ([],1) else if homeP ⟨q,s,k,d,a,f,g,h,t⟩=true then r1 else r2) :
  Av.Spec Tryz.prog GL 302 [.agg 12 [int q,str s,str k,.agg 7 [str d,widA a,str f,str g],int h,int t],fnv f1 cs1,fnv f2 cs2] m fun u m'=>u=.tup [dA R.1,int R.2]/\m'=m:=by
 subst hR
 refine qE Tryz.func302 rfl Tryz.ntmps302 rfl (fun _ hs=>?_)
 repeat' first|refine Zz ?_|intro _
 rename_i g3 g2 g1
 unfold chkN
 cases hc:chkP ⟨q,s,k,d,a,f,g,h,t⟩
 ·rw [if_neg (show ¬ false=true by decide),if_pos rfl,dT (show (1:Int)≠0 by decide)]
  repeat' first|refine Zz ?_|intro _
  refine reIKm _ m (dnil_imp _) ⟨rfl,rfl⟩ ?_
  exact sbl
 rw [if_pos rfl,if_neg (show ¬ true=false by decide),dZ (show ¬ (0:Int)≠0 by decide)]
 repeat' first|refine Zz ?_|intro _
 cases hh:homeP ⟨q,s,k,d,a,f,g,h,t⟩
 ·rw [if_neg (show ¬ false=true by decide)]
  repeat' first|refine Zz ?_|intro _
  refine al_callV (args:=[mvA d a f g]) (cs:=cs2) m [Av.Piece.var g1 319 (mvA d a f g),.var g2 61 (.agg 1 [.lit (.slice none 0 0)]),.var g3 47 (.agg 12 [int q,str s,str k,.agg 7 [str d,widA a,str f,str g],int h,int t])] (by rw [hs];exact h2) (fun u m' hh=>?_) (List.perm_append_comm (l₁:=[Av.Piece.var g1 319 (mvA d a f g),.var g2 61 (.agg 1 [.lit (.slice none 0 0)]),.var g3 47 (.agg 12 [int q,str s,str k,.agg 7 [str d,widA a,str f,str g],int h,int t])]) (l₂:=m)) (hcs:=hc2)
  obtain⟨rfl,rfl⟩:=hh
  refine al_st (fun ok w hS=>hS.perm (m':=[Av.Piece.var g1 319 (mvA d a f g),.var g2 61 (.agg 1 [.lit (.slice none 0 0)]),.var g3 47 (.agg 12 [int q,str s,str k,.agg 7 [str d,widA a,str f,str g],int h,int t])]++m') List.perm_append_comm) ?_
  repeat' first|refine Zz ?_|intro _
  refine reK m' ⟨rfl,rfl⟩ ?_
  exact sbl
 ·rw [if_pos rfl]
  repeat' first|refine Zz ?_|intro _
  refine al_callV (args:=[mvA d a f g]) (cs:=cs1) m [Av.Piece.var g1 319 (mvA d a f g),.var g2 61 (.agg 1 [.lit (.slice none 0 0)]),.var g3 47 (.agg 12 [int q,str s,str k,.agg 7 [str d,widA a,str f,str g],int h,int t])] (by rw [hs];exact h1) (fun u m' hh=>?_) (List.perm_append_comm (l₁:=[Av.Piece.var g1 319 (mvA d a f g),.var g2 61 (.agg 1 [.lit (.slice none 0 0)]),.var g3 47 (.agg 12 [int q,str s,str k,.agg 7 [str d,widA a,str f,str g],int h,int t])]) (l₂:=m)) (hcs:=hc1)
  obtain⟨rfl,rfl⟩:=hh
  refine al_st (fun ok w hS=>hS.perm (m':=[Av.Piece.var g1 319 (mvA d a f g),.var g2 61 (.agg 1 [.lit (.slice none 0 0)]),.var g3 47 (.agg 12 [int q,str s,str k,.agg 7 [str d,widA a,str f,str g],int h,int t])]++m') List.perm_append_comm) ?_
  repeat' first|refine Zz ?_|intro _
  refine reK m' ⟨rfl,rfl⟩ ?_
  exact sbl

section
variable {e:List Ent} {q:Int} {s k d:Bs} {a:Wd} {f g:Bs} {h t:Int} {g1 g2 g3:Nat} {z:Bs}
abbrev gE (g:Nat)(e:List Ent):Av.Piece:=.var g 61 (dA e)
abbrev gP (g:Nat)(q:Int)(s k d:Bs)(a:Wd)(f g':Bs)(h t:Int):Av.Piece:=.var g 47 (.agg 12 [int q,str s,str k,.agg 7 [str d,widA a,str f,str g'],int h,int t])
theorem send1 (hd:DOk e):Goes 303 [.pointer (some ⟨g1,0,none⟩)] [gP g2 q s k d a f g h t,gE g1 e] (mvA d a f g) (burnR e f d a):=by
 show Av.Spec _ _ _ [mvA d a f g,ptr g1] _ _
 refine qE Tryz.func303 rfl Tryz.ntmps303 rfl (fun _ hs=>?_)
 repeat' first|refine Zz ?_|intro _
 refine reK _ ⟨rfl,rfl⟩ ?_
 exact sbl
theorem send2 (hd:DOk e)(hs1:s.length<=1000000000):Goes 305 [.pointer (some ⟨g1,0,none⟩),.pointer (some ⟨g2,0,none⟩)] [gP g2 q s k d a f g h t,gE g1 e] (mvA d a f g) (moveR e f (escB s) d a):=by
 show Av.Spec _ _ _ [mvA d a f g,ptr g1,ptr g2] _ _
 refine qE Tryz.func305 rfl Tryz.ntmps305 rfl (fun _ hs=>?_)
 repeat' first|refine Zz ?_|intro _
 refine reK _ ⟨rfl,rfl⟩ ?_
 exact sbl
end
set_option maxHeartbeats 1000000 in
instance fnTSend {e:List Ent}{q:Int}{s k d:Bs}{a:Wd}{f g:Bs}{h t:Int}{xs:List AV}[hx:Ents xs e]:Ans Tryz.prog GL 215 [.agg 1 [.sl 2 xs none],.agg 12 [int q,str s,str k,.agg 7 [str d,widA a,str f,str g],int h,int t]] (DOk e/\s.length<=1000000000/\d.length<=1000000000) (.tup [dA (sendR e ⟨q,s,k,d,a,f,g,h,t⟩).1,int (sendR e ⟨q,s,k,d,a,f,g,h,t⟩).2]):=⟨fun hp=>by
 obtain⟨hd,hs1,hd1⟩:=hp
 have h':=hx.out
 subst h'
 refine qE Tryz.func215 rfl Tryz.ntmps215 rfl (fun _ hs=>?_)
 repeat' first|refine Zz ?_|intro _
 rename_i g1 g2 g3
 refine al_makeFunc (vs:=[.pointer (some ⟨g1,0,none⟩)]) ?_
 refine al_makeFunc (vs:=[.pointer (some ⟨g1,0,none⟩),.pointer (some ⟨g2,0,none⟩)]) ?_
 refine al_callK (args:=[.agg 12 [int q,str s,str k,.agg 7 [str d,widA a,str f,str g],int h,int t],fnv 303 [.pointer (some ⟨g1,0,none⟩)],fnv 305 [.pointer (some ⟨g1,0,none⟩),.pointer (some ⟨g2,0,none⟩)]]) [gP g2 q s k d a f g h t,gE g1 e] [.var g3 61 (.agg 1 [.lit (.slice none 0 0)])] (by rw [hs];exact tdoes_spec (send1 hd) (send2 hd hs1) (by simp [Value.oneCell']) (by simp [Value.oneCell']) ⟨hs1,hd1⟩ (R:=sendR e ⟨q,s,k,d,a,f,g,h,t⟩) rfl) (fun u m1 hh=>?_) (List.perm_append_comm (l₁:=[Av.Piece.var g3 61 (.agg 1 [.lit (.slice none 0 0)])]) (l₂:=[gP g2 q s k d a f g h t,gE g1 e]))
 obtain⟨rfl,rfl⟩:=hh
 repeat' first|refine Zz ?_|intro _
 refine reE ?_
 rfl⟩

theorem rcd_nil:rcdE []=10:=by rfl
theorem red_nil:redE []=10:=by rfl
theorem valE_no {d:List Ent}{k:Bs}(h:(gO d k).isSome=false):valE d k=[]:=by
 unfold valE
 cases hg:gO d k with
 | none=>rfl
 | some v=>rw [hg] at h;cases h
theorem rcd_zero {s:Bs}(h:rcdE s≠0):rcdV s=zeroC:=by
 unfold rcdE at h
 unfold rcdV
 split at h
 ·exact (h rfl).elim
 ·rename_i hn
  rw [if_neg hn]
theorem red_zero {s:Bs}(h:redE s≠0):redV s=zeroE:=by
 unfold redE at h
 unfold redV
 split at h
 ·exact (h rfl).elim
 ·rename_i hn
  rw [if_neg hn]
theorem rcd_may {s:Bs}(h:rcdE s=0):mayC (rcdV s)=true:=by
 unfold rcdE at h
 unfold rcdV
 split at h
 ·rename_i hn
  rw [if_pos hn]
  unfold rcOk at hn
  rw [bet,bet] at hn
  exact hn.2.2
 ·cases h
theorem rcd_or (s:Bs):mayC (rcdV s)=true\/rcdV s=zeroC:=by
 by_cases h:rcdE s=0
 ·exact .inl (rcd_may h)
 ·exact .inr (rcd_zero h)
theorem lat_mem {l:List Sta}(h:l≠[]):latC l ∈ l:=by
 rcases List.eq_nil_or_concat l with rfl|⟨l',a,rfl⟩
 ·exact (h rfl).elim
 ·unfold latC
  simp
theorem imp_cz {b:Bool}:Imp (outOf [.agg 5 [.lit (.string ⟨#[]⟩),.lit (.string ⟨#[]⟩),.lit (.int .i64 0),.lit (.bool false),.lit (.slice none 0 0)],boo b]) (.tup [cliA zeroC,boo b]):=(inferInstance:ImpR (.tup [.agg 5 [.lit (.string ⟨#[]⟩),.lit (.string ⟨#[]⟩),.lit (.int .i64 0),.lit (.bool false),.lit (.slice none 0 0)],boo b]) (.tup [.agg 5 [str [],str [],int 0,boo false,.sl 34 [] none],boo b])).imp
instance fnCoClient {d:List Ent}{i:Bs}{xs:List AV}{id:Option Value}[hx:Ents xs d]:Ans Tryz.prog GL 19 [.agg 1 [.sl 2 xs id],str i] (DOk d) (.tup [cliA (clR d i),boo (clB d i)]):=⟨fun hd=>by
 have hv:=hd.val (kyO [67] i)
 refine qE Tryz.func19 rfl Tryz.ntmps19 rfl (fun _ hs=>?_)
 repeat' first|refine Zz ?_|intro _
 refine reE ?_
 rfl⟩
instance fnR18Client {d:List Ent}{i:Bs}{xs:List AV}{id:Option Value}[hx:Ents xs d]:Ans Tryz.prog GL 20 [.sl 2 xs id,str i] (DOk d) (.tup [cliA (clR d i),boo (clB d i)]):=⟨fun hd=>by
 have hv:=hd.val (kyO [67] i)
 unfold clR clB
 refine qE Tryz.func20 rfl Tryz.ntmps20 rfl (fun _ hs=>?_)
 repeat' first|refine Zz ?_|intro _
 cases hg:(gO d (kyO [67] i)).isSome
 ·have hn:=valE_no hg
  rw [hn,rcd_nil,rcd_zero (by rw [rcd_nil];decide)]
  repeat' first|refine Zz ?_|intro _
  refine reI ?_
  exact imp_cz
 ·by_cases he:rcdE (valE d (kyO [67] i))=0
  ·rw [dT he]
   repeat' first|refine Zz ?_|intro _
   rw [dZ (nni he)]
   repeat' first|refine Zz ?_|intro _
   refine reE ?_
   rfl
  ·rw [dZ he,rcd_zero he]
   repeat' first|refine Zz ?_|intro _
   rw [dT he]
   repeat' first|refine Zz ?_|intro _
   refine reI ?_
   exact imp_cz⟩
instance fnCoEnd {d:List Ent}{k:Bs}{xs:List AV}{id:Option Value}[hx:Ents xs d]:Ans Tryz.prog GL 59 [.agg 1 [.sl 2 xs id],str k] (DOk d) (.tup [endA (redV (valE d k)),boo (decide (redE (valE d k)=0))]):=⟨fun hd=>by
 have hv:=hd.val k
 refine qE Tryz.func59 rfl Tryz.ntmps59 rfl (fun _ hs=>?_)
 repeat' first|refine Zz ?_|intro _
 refine reE ?_
 rfl⟩
instance fnCoConn {d:List Ent}{i:Bs}{xs:List AV}{id:Option Value}[hx:Ents xs d]:Ans Tryz.prog GL 21 [.agg 1 [.sl 2 xs id],str i] (DOk d) (.tup [endA (enR d [75] i),boo (enB d [75] i)]):=⟨fun hd=>by
 refine qE Tryz.func21 rfl Tryz.ntmps21 rfl (fun _ hs=>?_)
 repeat' first|refine Zz ?_|intro _
 refine reE ?_
 rfl⟩
instance fnCoChan {d:List Ent}{i:Bs}{xs:List AV}{id:Option Value}[hx:Ents xs d]:Ans Tryz.prog GL 23 [.agg 1 [.sl 2 xs id],str i] (DOk d) (.tup [endA (enR d [72] i),boo (enB d [72] i)]):=⟨fun hd=>by
 refine qE Tryz.func23 rfl Tryz.ntmps23 rfl (fun _ hs=>?_)
 repeat' first|refine Zz ?_|intro _
 refine reE ?_
 rfl⟩
instance fnR18End {d:List Ent}{k i:Bs}{xs:List AV}{id:Option Value}[hx:Ents xs d]:Ans Tryz.prog GL 22 [.sl 2 xs id,str k,str i] (DOk d/\k.length<=1000000000) (.tup [endA (enR d k i),boo (enB d k i)]):=⟨fun hp=>by
 obtain⟨hd,hk⟩:=hp
 have hv:=hd.val (kyO k i)
 unfold enR enB
 refine qE Tryz.func22 rfl Tryz.ntmps22 rfl (fun _ hs=>?_)
 repeat' first|refine Zz ?_|intro _
 cases hg:(gO d (kyO k i)).isSome
 ·have hn:=valE_no hg
  rw [hn,red_nil,red_zero (by rw [red_nil];decide)]
  repeat' first|refine Zz ?_|intro _
  refine reE ?_
  rfl
 ·by_cases he:redE (valE d (kyO k i))=0
  ·rw [dT he]
   repeat' first|refine Zz ?_|intro _
   rw [dZ (nni he)]
   repeat' first|refine Zz ?_|intro _
   refine reE ?_
   rfl
  ·rw [dZ he,red_zero he]
   repeat' first|refine Zz ?_|intro _
   rw [dT he]
   repeat' first|refine Zz ?_|intro _
   refine reE ?_
   rfl⟩
instance fnCoNext {d:List Ent}{i:Bs}{xs:List AV}{id:Option Value}[hx:Ents xs d]:Ans Tryz.prog GL 28 [.agg 1 [.sl 2 xs id],str i] (DOk d) (int (nxR d i)):=⟨fun hd=>by
 have hv:=hd.val (kyO [78] i)
 unfold nxR
 refine qE Tryz.func28 rfl Tryz.ntmps28 rfl (fun _ hs=>?_)
 repeat' first|refine Zz ?_|intro _
 by_cases he:knE (valE d (kyO [78] i))=0
 ·rw [if_pos he,dZ (nni he)]
  repeat' first|refine Zz ?_|intro _
  refine reE ?_
  rfl
 ·rw [if_neg he,dT he]
  repeat' first|refine Zz ?_|intro _
  refine reE ?_
  rfl⟩

attribute [local irreducible] clB enB
end Go.Proofs.YtlmcongmglfaeaaGreatDoor

namespace Go.Proofs.YtlmcongmglfaeaaGreatDoor
open Go Go.RowKit Tw Av
attribute [local irreducible] clB enB
structure TxB (x:TxX):Prop where
 i:x.i.length<=400000000
 o:x.o.length<=400000000
 p:x.p.length<=400000000
 q:x.q.length<=400000000
 y:x.y.length<=400000000
 a:x.a.length<=400000000
 s:x.x.s.length<=400000000
 k:x.x.k.length<=400000000
 d:x.x.d.length<=400000000
 f:x.x.f.length<=400000000
 g:x.x.g.length<=400000000
 hh:x.h.h<=9223372036854775807
 ht:x.h.t<=9223372036854775807
 fm:x.f.m<=9223372036854775807
 gm:x.g.a.m<=9223372036854775807/\x.g.b.m<=9223372036854775807
instance fnLFails {d:List Ent}{h t e:Int}{xs:List AV}[hx:Ents xs d]:Ans Tryz.prog GL 49 [.agg 3 [.agg 1 [.sl 2 xs none],int h,int t],int e] True (.tup [dA (failR d e).1,repA (failR d e).2]):=⟨fun _=>by
 have h':=hx.out
 subst h'
 refine qE Tryz.func49 rfl Tryz.ntmps49 rfl (fun _ hs=>?_)
 repeat' first|refine Zz ?_|intro _
 refine reE ?_
 rfl⟩
instance fnLTold {d r:List Ent}{h t e a b:Int}{c:Bs}{xs ys:List AV}[hx:Ents xs d][hy:Ents ys r]:Ans Tryz.prog GL 201 [.agg 3 [.agg 1 [.sl 2 xs none],int h,int t],.agg 1 [.sl 2 ys none],int e,.agg 3 [int a,int b,str c]] True (.tup [dA (tellR d (r,e) ⟨a,b,c⟩).1,repA (tellR d (r,e) ⟨a,b,c⟩).2]):=⟨fun _=>by
 have h':=hx.out
 subst h'
 have h':=hy.out
 subst h'
 unfold tellR
 refine qE Tryz.func201 rfl Tryz.ntmps201 rfl (fun _ hs=>?_)
 repeat' first|refine Zz ?_|intro _
 by_cases he:e=0
 ·rw [if_pos he,dZ (nni he)]
  repeat' first|refine Zz ?_|intro _
  refine reE ?_
  rfl
 ·rw [if_neg he,dT he]
  repeat' first|refine Zz ?_|intro _
  refine reE ?_
  rfl⟩
set_option maxHeartbeats 1000000 in
instance fnLFund {d:List Ent}{h t:Int}{x:TxX}{xs:List AV}[hx:Ents xs d]:Ans Tryz.prog GL 122 [.agg 3 [.agg 1 [.sl 2 xs none],int h,int t],txA x] (DOk d/\TxB x) (.tup [dA (fundR d x.x).1,repA (fundR d x.x).2]):=⟨fun hp=>by
 obtain⟨hd,hb⟩:=hp
 have b1:=hb.d
 have h':=hx.out
 subst h'
 refine qE Tryz.func122 rfl Tryz.ntmps122 rfl (fun _ hs=>?_)
 repeat' first|refine Zz ?_|intro _
 unfold fundR
 cases h1:denB x.x.d
 ·rw [if_pos (.inl rfl)]
  repeat' first|refine Zz ?_|intro _
  refine reE ?_
  rfl
 repeat' first|refine Zz ?_|intro _
 by_cases h2:0 < hopN x.x.d
 ·rw [if_pos (.inr (.inl h2)),dT (show (0:Int) < ((hopN x.x.d:Nat):Int) by omega)]
  repeat' first|refine Zz ?_|intro _
  refine reE ?_
  rfl
 rw [dZ (show ¬ (0:Int) < ((hopN x.x.d:Nat):Int) by omega)]
 repeat' first|refine Zz ?_|intro _
 cases h3:plainB x.x.g
 ·rw [if_pos (.inr (.inr rfl))]
  repeat' first|refine Zz ?_|intro _
  refine reE ?_
  rfl
 rw [if_neg (show ¬ (true=false\/0 < hopN x.x.d\/true=false) by simp [h2])]
 repeat' first|refine Zz ?_|intro _
 refine reE ?_
 rfl⟩
end Go.Proofs.YtlmcongmglfaeaaGreatDoor

namespace Go.Proofs.YtlmcongmglfaeaaGreatDoor
open Go Go.RowKit Tw Av
theorem sT_at {c m:Int}{t r:Bs}{σ:RS}(hσ:σ.1=(tlvT c t++r,false))(h0:0<=c)(h1:c < 256){n:Nat}(h2:t.length<=n)(h3:(n:Int)<=m/\n<=16777215):gT c m σ=t/\(sT c m σ).1=(r,false):=by
 obtain⟨a,b,e⟩:=rd_tlvT (c:=c) (most:=m) (s:=t) (r:=r) h0 h1 (by omega) (by omega)
 unfold gT sT
 dsimp only
 rw [hσ]
 dsimp only
 rw [a,b,e]
 exact⟨rfl,rfl⟩
theorem sI_at {c m n:Int}{r:Bs}{σ:RS}(hσ:σ.1=(tlvI c n++r,false))(h0:0<=c)(h1:c < 256)(h2:0<=n)(h3:n<=m)(h4:m<=9223372036854775807):gI c m σ=n/\(sI c m σ).1=(r,false):=by
 obtain⟨a,b,e⟩:=rd_tlvI (c:=c) (most:=m) (n:=n) (r:=r) h0 h1 h2 h3 h4
 unfold gI sI
 dsimp only
 rw [hσ]
 dsimp only
 rw [a,b,e]
 exact⟨rfl,rfl⟩
structure TxG (x:TxX):Prop where
 k:0<=x.k/\x.k<=16
 i:x.i.length<=4000
 o:x.o.length<=4000
 p:x.p.length<=4000
 q:x.q.length<=4000
 y:x.y.length<=4000
 e:0<=x.e/\x.e<=1099511627776
 c:x.h.c.length<=4000
 hh:0<=x.h.h/\x.h.h<=1099511627776
 ht:0<=x.h.t/\x.h.t<=1099511627776
 xq:0<=x.x.q/\x.x.q<=1099511627776
 xh:0<=x.x.h/\x.x.h<=1099511627776
 xt:0<=x.x.t/\x.x.t<=1099511627776
 t:0<=x.t/\x.t<=1099511627776
 xs:x.x.s.length<=4000
 xk:x.x.k.length<=4000
 xd:x.x.d.length<=4000
 xf:x.x.f.length<=4000
 xg:x.x.g.length<=4000
 a:x.a.length<=4000
 f:PG x.f
 g:GG x.g
 gl:(gapB x.g).length<=4000
theorem rtx_txB {x:TxX}(h:TxG x)(hl:(txB x).length<=1000000000):rtxV (xs0 (txB x))=x/\rtxE (xs0 (txB x))=0:=by
 have hB:txB x=tlvI 75 x.k++(tlvT 73 x.i++(tlvT 79 x.o++(tlvT 81 x.p++(tlvT 82 x.q++(tlvT 89 x.y++(tlvI 69 x.e++(tlvT 99 x.h.c++(tlvI 104 x.h.h++(tlvI 116 x.h.t++(tlvT 114 x.h.r.l++(tlvT 77 x.m.l++(tlvI 113 x.x.q++(tlvT 115 x.x.s++(tlvT 107 x.x.k++(tlvT 100 x.x.d++(tlvT 97 (beB x.x.a.n)++(tlvT 102 x.x.f++(tlvT 103 x.x.g++(tlvI 117 x.x.h++(tlvI 118 x.x.t++(tlvT 65 x.a++(tlvI 84 x.t++(tlvT 70 (prfB x.f)++(tlvT 71 (gapB x.g)++[])))))))))))))))))))))))):=by
  unfold txB
  simp only [List.append_assoc,List.append_nil]
 have e0:(xs0 (txB x)).1=(txB x,false):=by
  unfold xs0
  rw [dif_pos hl]
 generalize xs0 (txB x)=σ at *
 rw [hB] at e0
 clear hB hl
 obtain⟨g1,s1⟩:=sI_at (c:=75) (m:=16) e0 (by decide) (by decide) h.k.1 h.k.2 (by decide)
 change (xs1 σ).1=_ at s1
 obtain⟨g2,s2⟩:=sT_at (c:=73) (m:=4000) s1 (by decide) (by decide) h.i (by decide)
 change (xs2 σ).1=_ at s2
 obtain⟨g3,s3⟩:=sT_at (c:=79) (m:=4000) s2 (by decide) (by decide) h.o (by decide)
 change (xs3 σ).1=_ at s3
 obtain⟨g4,s4⟩:=sT_at (c:=81) (m:=4000) s3 (by decide) (by decide) h.p (by decide)
 change (xs4 σ).1=_ at s4
 obtain⟨g5,s5⟩:=sT_at (c:=82) (m:=4000) s4 (by decide) (by decide) h.q (by decide)
 change (xs5 σ).1=_ at s5
 obtain⟨g6,s6⟩:=sT_at (c:=89) (m:=4000) s5 (by decide) (by decide) h.y (by decide)
 change (xs6 σ).1=_ at s6
 obtain⟨g7,s7⟩:=sI_at (c:=69) (m:=1099511627776) s6 (by decide) (by decide) h.e.1 h.e.2 (by decide)
 change (xs7 σ).1=_ at s7
 obtain⟨g8,s8⟩:=sT_at (c:=99) (m:=4000) s7 (by decide) (by decide) h.c (by decide)
 change (xs8 σ).1=_ at s8
 obtain⟨g9,s9⟩:=sI_at (c:=104) (m:=1099511627776) s8 (by decide) (by decide) h.hh.1 h.hh.2 (by decide)
 change (xs9 σ).1=_ at s9
 obtain⟨g10,s10⟩:=sI_at (c:=116) (m:=1099511627776) s9 (by decide) (by decide) h.ht.1 h.ht.2 (by decide)
 change (xs10 σ).1=_ at s10
 obtain⟨g11,s11⟩:=sT_at (c:=114) (m:=32) s10 (by decide) (by decide) (Nat.le_of_eq x.h.r.len) (by decide)
 change (xs11 σ).1=_ at s11
 obtain⟨g12,s12⟩:=sT_at (c:=77) (m:=32) s11 (by decide) (by decide) (Nat.le_of_eq x.m.len) (by decide)
 change (xs12 σ).1=_ at s12
 obtain⟨g13,s13⟩:=sI_at (c:=113) (m:=1099511627776) s12 (by decide) (by decide) h.xq.1 h.xq.2 (by decide)
 change (xs13 σ).1=_ at s13
 obtain⟨g14,s14⟩:=sT_at (c:=115) (m:=4000) s13 (by decide) (by decide) h.xs (by decide)
 change (xs14 σ).1=_ at s14
 obtain⟨g15,s15⟩:=sT_at (c:=107) (m:=4000) s14 (by decide) (by decide) h.xk (by decide)
 change (xs15 σ).1=_ at s15
 obtain⟨g16,s16⟩:=sT_at (c:=100) (m:=4000) s15 (by decide) (by decide) h.xd (by decide)
 change (xs16 σ).1=_ at s16
 obtain⟨g17,s17⟩:=sT_at (c:=97) (m:=32) s16 (by decide) (by decide) (Nat.le_of_eq (beB_len _)) (by decide)
 change (xs17 σ).1=_ at s17
 obtain⟨g18,s18⟩:=sT_at (c:=102) (m:=4000) s17 (by decide) (by decide) h.xf (by decide)
 change (xs18 σ).1=_ at s18
 obtain⟨g19,s19⟩:=sT_at (c:=103) (m:=4000) s18 (by decide) (by decide) h.xg (by decide)
 change (xs19 σ).1=_ at s19
 obtain⟨g20,s20⟩:=sI_at (c:=117) (m:=1099511627776) s19 (by decide) (by decide) h.xh.1 h.xh.2 (by decide)
 change (xs20 σ).1=_ at s20
 obtain⟨g21,s21⟩:=sI_at (c:=118) (m:=1099511627776) s20 (by decide) (by decide) h.xt.1 h.xt.2 (by decide)
 change (xs21 σ).1=_ at s21
 obtain⟨g22,s22⟩:=sT_at (c:=65) (m:=4000) s21 (by decide) (by decide) h.a (by decide)
 change (xs22 σ).1=_ at s22
 obtain⟨g23,s23⟩:=sI_at (c:=84) (m:=1099511627776) s22 (by decide) (by decide) h.t.1 h.t.2 (by decide)
 change (xs23 σ).1=_ at s23
 obtain⟨g24,s24⟩:=sT_at (c:=70) (m:=4000) s23 (by decide) (by decide) (prfB_short h.f) (by decide)
 change (xs24 σ).1=_ at s24
 obtain⟨g25,s25⟩:=sT_at (c:=71) (m:=4000) s24 (by decide) (by decide) h.gl (by decide)
 change (xs25 σ).1=_ at s25
 have hE:gZ (xs25 σ)=0:=by
  unfold gZ
  rw [s25]
  rfl
 have hk:txOk σ=true:=by
  unfold txOk xRoot xMac xAmt xPrf xGap
  rw [g11,g12,g17,g24,g25,hE,x.h.r.len,x.m.len,beB_len,(rpd_prfB h.f).2.1,(rgd_gapB h.g).2]
  rfl
 have hV:txV σ=x:=by
  show (⟨gI 75 16 σ,gT 73 4000 (xs1 σ),gT 79 4000 (xs2 σ),gT 81 4000 (xs3 σ),gT 82 4000 (xs4 σ),gT 89 4000 (xs5 σ),gI 69 1099511627776 (xs6 σ),⟨gT 99 4000 (xs7 σ),gI 104 1099511627776 (xs8 σ),gI 116 1099511627776 (xs9 σ),hOf (gT 114 32 (xs10 σ))⟩,hOf (gT 77 32 (xs11 σ)),⟨gI 113 1099511627776 (xs12 σ),gT 115 4000 (xs13 σ),gT 107 4000 (xs14 σ),gT 100 4000 (xs15 σ),wV (gT 97 32 (xs16 σ)),gT 102 4000 (xs17 σ),gT 103 4000 (xs18 σ),gI 117 1099511627776 (xs19 σ),gI 118 1099511627776 (xs20 σ)⟩,gT 65 4000 (xs21 σ),gI 84 1099511627776 (xs22 σ),rpdV (gT 70 4000 (xs23 σ)),rgdV (gT 71 4000 (xs24 σ))⟩:TxX)=x
  rw [g1,g2,g3,g4,g5,g6,g7,g8,g9,g10,g11,g12,g13,g14,g15,g16,g17,g18,g19,g20,g21,g22,g23,g24,g25,hOf_self,hOf_self,(rpd_prfB h.f).1,(rgd_gapB h.g).1,wV,if_pos (beB_len _),beN_beB,wOf_eta]
 unfold rtxV rtxE
 rw [hk,if_pos rfl,if_pos rfl]
 exact⟨hV,rfl⟩

attribute [local irreducible] clB enB
class KeyF (f:FuncId)(k:outParam Bs):Prop where
 out:∀ i,Ans Tryz.prog GL f [str i] True (str (kyO k i))
instance : KeyF 60 [75] := ⟨fun _ => inferInstance⟩
instance : KeyF 62 [72] := ⟨fun _ => inferInstance⟩
def joiQ (d:List Ent)(x:TxX)(i k pp:Bs)(th:EndX)(r:EndX × Int)(t:Int):Out18:=if prE d i x.t t (kyO k pp) (enxB th) x.f≠0 then failR d (prE d i x.t t (kyO k pp) (enxB th) x.f) else if r.2≠0 then failR d r.2 else putsR d (kyO k x.i) (enxB r.1)
theorem joi_t {d:List Ent}{x:TxX}{own:EndX}{i k:Bs}{t:Int}:joiR d x own i k true t=joiQ d x i k x.p ⟨2,own.q,own.o,x.i⟩ (ackE own x.i x.p ⟨2,own.q,own.o,x.i⟩) t:=rfl
theorem joi_f {d:List Ent}{x:TxX}{own:EndX}{i k:Bs}{t:Int}:joiR d x own i k false t=joiQ d x i k own.p ⟨3,own.q,own.o,x.i⟩ (cnfE own x.i ⟨3,own.q,own.o,x.i⟩) t:=rfl
end Go.Proofs.YtlmcongmglfaeaaGreatDoor

namespace Go.Proofs.YtlmcongmglfaeaaGreatDoor
open Go Go.RowKit Tw Av
attribute [local irreducible] clB enB
def Asks (f:FuncId)(cs:List Value)(m:List Av.Piece)(A:EndX->Bool):Prop:=∀ c:EndX,Av.Spec Tryz.prog GL f (.agg 4 [int c.s,str c.o,str c.q,str c.p]::cs.map .lit) m fun u m'=>u=boo (A c)/\m'=m
def chaT (d:List Ent)(i:Bs)(A:EndX->Bool):AV:=.tup [endA (enR d [72] i),str (if chaE d i A=0 then chaN d i else []),boo (decide (chaE d i A=0) && chaK d i),int (chaE d i A)]
set_option maxHeartbeats 2000000 in
theorem chan_spec {f:FuncId}[FnB Tryz.prog f]{cs:List Value}{m:List Av.Piece}{A:EndX->Bool}{d:List Ent}{h t:Int}{i:Bs}(ha:Asks f cs m A)(hc:∀ v ∈ cs,v.oneCell'=true)(hd:DOk d) :
  Av.Spec Tryz.prog GL 210 [.agg 3 [dA d,int h,int t],str i,fnv f cs] m fun u m'=>u=chaT d i A/\m'=m:=by
 refine qE Tryz.func210 rfl Tryz.ntmps210 rfl (fun _ hs=>?_)
 repeat' first|refine Zz ?_|intro _
 rename_i g1 g2
 unfold chaT chaE
 cases h1:enB d [72] i
 ·rw [if_pos rfl]
  repeat' first|refine Zz ?_|intro _
  refine reK m ⟨rfl,rfl⟩ ?_
  exact sbl
 rw [if_neg (show ¬ true=false by decide)]
 repeat' first|refine Zz ?_|intro _
 by_cases h2:(enR d [72] i).s=3
 rotate_left
 ·rw [dT h2]
  repeat' first|refine Zz ?_|intro _
  refine reK m ⟨?_,rfl⟩ ?_
  ·simp [h2,outOf]
  ·exact sbl
 rw [dZ (nni h2)]
 repeat' first|refine Zz ?_|intro _
 first|refine al_on ?_|skip
 refine al_callV (args:=[endA (enR d [72] i)]) (cs:=cs) m [Av.Piece.var g2 84 (endA (enR d [72] i)),.var g1 119 (.agg 3 [dA d,int h,int t])] (by rw [hs];exact ha _) (fun u m' hh=>?_) (List.perm_append_comm (l₁:=[Av.Piece.var g2 84 (endA (enR d [72] i)),.var g1 119 (.agg 3 [dA d,int h,int t])]) (l₂:=m)) (hcs:=hc)
 obtain⟨rfl,rfl⟩:=hh
 refine al_st (fun ok w hS=>hS.perm (m':=[Av.Piece.var g2 84 (endA (enR d [72] i)),.var g1 119 (.agg 3 [dA d,int h,int t])]++m') List.perm_append_comm) ?_
 cases h3:A (enR d [72] i)
 ·repeat' first|refine Zz ?_|intro _
  refine reK m' ⟨?_,rfl⟩ ?_
  ·simp [h2,outOf]
  ·exact sbl
 rw [if_neg (show ¬ ((enR d [72] i).s≠3\/true=false) by simp [h2])]
 repeat' first|refine Zz ?_|intro _
 refine reK m' ⟨?_,rfl⟩ ?_
 ·rfl
 ·exact sbl
theorem send_asks:Asks 211 [] [] (fun _=>true):=fun c=>by
 show Av.Spec _ _ _ [.agg 4 [int c.s,str c.o,str c.q,str c.p]] _ _
 refine qE Tryz.func211 rfl Tryz.ntmps211 rfl (fun _ hs=>?_)
 repeat' first|refine Zz ?_|intro _
 refine reK [] ⟨rfl,rfl⟩ ?_
 exact sbl
theorem nums_le {x:Pkt}(h:chkP x=true):x.q<=1099511627776/\x.h<=1099511627776/\x.t<=1099511627776/\1<=x.q:=by
 unfold chkP numsP at h
 rw [bet,decide_eq_true_iff] at h
 obtain⟨⟨h0,h1,_,h2,_,h3,_⟩,_⟩:=h
 exact⟨h1,h2,h3,h0⟩
set_option maxHeartbeats 2000000 in
instance fnLSend {d:List Ent}{h t:Int}{x:TxX}{xs:List AV}[hx:Ents xs d]:Ans Tryz.prog GL 130 [.agg 3 [.agg 1 [.sl 2 xs none],int h,int t],txA x] (DOk d/\TxB x) (.tup [dA (sndR d x.x).1,repA (sndR d x.x).2]):=⟨fun hp=>by
 have hp':=hp
 obtain⟨hd,hb⟩:=hp
 have h':=hx.out
 subst h'
 have b1:=hb.d
 have b2:=hb.s
 refine qE Tryz.func130 rfl Tryz.ntmps130 rfl (fun _ hs=>?_)
 repeat' first|refine Zz ?_|intro _
 refine al_callK (args:=[.agg 3 [dA d,int h,int t],str x.x.s,fnv 211 []]) [] _ (by rw [hs];exact chan_spec send_asks (by simp) hd) (fun u m' hh=>?_) lpr
 obtain⟨rfl,rfl⟩:=hh
 unfold chaT sndR goes
 repeat' first|refine Zz ?_|intro _
 by_cases h1:chaE d x.x.s (fun _=>true)=0
 rotate_left
 ·rw [if_pos h1,dT h1]
  repeat' first|refine Zz ?_|intro _
  refine reE ?_
  rfl
 rw [if_neg (nni h1),dZ (nni h1),dT h1,if_pos h1,Bool.true_and]
 repeat' first|refine Zz ?_|intro _
 unfold chkN
 cases h2:chkP ⟨nxR d x.x.s,x.x.s,(enR d [72] x.x.s).p,x.x.d,x.x.a,x.x.f,x.x.g,x.x.h,x.x.t⟩
 ·rw [if_pos rfl,if_neg (show ¬ false=true by decide),dT (show (1:Int)≠0 by decide)]
  repeat' first|refine Zz ?_|intro _
  refine reE ?_
  rfl
 rw [if_neg (show ¬ true=false by decide),if_pos rfl,dZ (show ¬ (0:Int)≠0 by decide)]
 repeat' first|refine Zz ?_|intro _
 cases h3:chaK d x.x.s
 ·rw [if_pos (.inl rfl)]
  repeat' first|refine Zz ?_|intro _
  refine reE ?_
  rfl
 repeat' first|refine Zz ?_|intro _
 cases h4:clB d (chaN d x.x.s)
 ·rw [if_pos (.inr rfl)]
  repeat' first|refine Zz ?_|intro _
  refine reE ?_
  rfl
 rw [if_neg (show ¬ (true=false\/true=false) by decide)]
 repeat' first|refine Zz ?_|intro _
 cases h5:lateP ⟨nxR d x.x.s,x.x.s,(enR d [72] x.x.s).p,x.x.d,x.x.a,x.x.f,x.x.g,x.x.h,x.x.t⟩ (latC (clR d (chaN d x.x.s)).l).h (latC (clR d (chaN d x.x.s)).l).t
 rotate_left
 ·rw [if_pos rfl]
  repeat' first|refine Zz ?_|intro _
  refine reE ?_
  rfl
 rw [if_neg (show ¬ false=true by decide)]
 have q1:DOk d/\x.x.s.length<=1000000000/\x.x.d.length<=1000000000:=⟨hd,by omega,by omega⟩
 have q2:nxR d x.x.s<=1099511627776/\x.x.h<=1099511627776/\x.x.t<=1099511627776/\1<=nxR d x.x.s:=nums_le h2
 obtain⟨q3,q4,q5,q8⟩:=q2
 have q6:DOk (sendR d ⟨nxR d x.x.s,x.x.s,(enR d [72] x.x.s).p,x.x.d,x.x.a,x.x.f,x.x.g,x.x.h,x.x.t⟩).1:=sendR_dok hd
 repeat' first|refine Zz ?_|intro _
 unfold thenR
 dsimp only
 by_cases h6:(sendR d ⟨nxR d x.x.s,x.x.s,(enR d [72] x.x.s).p,x.x.d,x.x.a,x.x.f,x.x.g,x.x.h,x.x.t⟩).2=0
 rotate_left
 ·rw [if_neg h6,dZ h6]
  repeat' first|refine Zz ?_|intro _
  rw [dZ h6]
  repeat' first|refine Zz ?_|intro _
  refine reE ?_
  rfl
 rw [if_pos h6,dT h6]
 repeat' first|refine Zz ?_|intro _
 have q7:DOk (putR (sendR d ⟨nxR d x.x.s,x.x.s,(enR d [72] x.x.s).p,x.x.d,x.x.a,x.x.f,x.x.g,x.x.h,x.x.t⟩).1 (kyW [80] x.x.s (nxR d x.x.s)) (comP ⟨nxR d x.x.s,x.x.s,(enR d [72] x.x.s).p,x.x.d,x.x.a,x.x.f,x.x.g,x.x.h,x.x.t⟩)).1:=putR_dok q6
 by_cases h7:(putR (sendR d ⟨nxR d x.x.s,x.x.s,(enR d [72] x.x.s).p,x.x.d,x.x.a,x.x.f,x.x.g,x.x.h,x.x.t⟩).1 (kyW [80] x.x.s (nxR d x.x.s)) (comP ⟨nxR d x.x.s,x.x.s,(enR d [72] x.x.s).p,x.x.d,x.x.a,x.x.f,x.x.g,x.x.h,x.x.t⟩)).2=0
 rotate_left
 ·rw [if_neg h7,dZ h7]
  repeat' first|refine Zz ?_|intro _
  refine reE ?_
  rfl
 rw [if_pos h7,dT h7]
 repeat' first|refine Zz ?_|intro _
 refine reE ?_
 rfl⟩
end Go.Proofs.YtlmcongmglfaeaaGreatDoor

namespace Go.Proofs.YtlmcongmglfaeaaGreatDoor
open Go Go.RowKit Tw Av
attribute [local irreducible] clB enB
end Go.Proofs.YtlmcongmglfaeaaGreatDoor

namespace Go.Proofs.YtlmcongmglfaeaaGreatDoor
open Go Go.RowKit Tw Av
attribute [local irreducible] clB enB
end Go.Proofs.YtlmcongmglfaeaaGreatDoor

namespace Go.Proofs.YtlmcongmglfaeaaGreatDoor
open Go Go.RowKit Tw Av
attribute [local irreducible] clB enB lateP
end Go.Proofs.YtlmcongmglfaeaaGreatDoor
