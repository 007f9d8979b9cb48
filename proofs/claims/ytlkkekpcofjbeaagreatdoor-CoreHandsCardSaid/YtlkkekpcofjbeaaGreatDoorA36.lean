/- chapter 18, transactions as bytes, in plain words: what is read is within bounds; what was written is read; short texts are none -/
import Derived.Test.YtlkkekpcofjbeaaGreatDoorA27
import Derived.Test.YtlkkekpcofjbeaaGreatDoorA28
import Derived.Test.YtlkkekpcofjbeaaGreatDoorA31
import Derived.Test.YtlkkekpcofjbeaaGreatDoorA32
import Derived.Test.YtlkkekpcofjbeaaGreatDoorA34
import Derived.Test.YtlkkekpcofjbeaaGreatDoorA35
namespace Go.Proofs.YtlkkekpcofjbeaaGreatDoor
open Go Go.RowKit Tw Av
attribute [local irreducible] nameB dnmB wIs
theorem may1 {a c:Bs}{n:Wd}:([a].all nameB && (dnmB c && decide (n.n≠0)))=false↔nameB a=false\/dnmB c=false\/n.n=0:=by
 simp only [List.all_cons,List.all_nil,Bool.and_true]
 by_cases h:n.n=0 <;> cases nameB a <;> cases dnmB c <;> simp [h]
theorem may2 {a b c:Bs}{n:Wd}:([a,b].all nameB && (dnmB c && decide (n.n≠0)))=false↔nameB a=false\/nameB b=false\/dnmB c=false\/n.n=0:=by
 simp only [List.all_cons,List.all_nil,Bool.and_true]
 by_cases h:n.n=0 <;> cases nameB a <;> cases nameB b <;> cases dnmB c <;> simp [h]
theorem one_cells {g1 g2:Nat}:∀ v ∈ [Value.pointer (some ⟨g1,0,none⟩),.pointer (some ⟨g2,0,none⟩)],v.oneCell'=true:=by simp [Value.oneCell']
set_option maxHeartbeats 4000000 in
instance fnBMint {d:List Ent}{a c:Bs}{n:Wd}{xs:List AV}[hx:Ents xs d]:Ans Tryz.prog GL 106 [.agg 1 [.sl 2 xs none],str a,str c,widA n] (DOk d) (.tup [dA (mintR d a c n).1,int (mintR d a c n).2]):=⟨fun hd=>by
 have h:=hx.out
 subst h
 refine qE Tryz.func106 rfl Tryz.ntmps106 rfl (fun _ hs=>?_)
 repeat' first|refine Zz ?_|intro _
 unfold mintR
 cases h1:[a].all nameB && (dnmB c && decide (n.n≠0))
 ·rw [if_pos (may1.1 h1)]
  repeat' first|refine Zz ?_|intro _
  refine reI ?_
  exact dnil_imp _
 rw [if_neg (fun e=>by rw [may1.2 e] at h1;cases h1)]
 repeat' first|refine Zz ?_|intro _
 cases h2:wIs ((getW d (balK a c)).n + n.n)
 ·rw [if_pos rfl]
  repeat' first|refine Zz ?_|intro _
  refine reI ?_
  exact dnil_imp _
 rw [if_neg (by decide)]
 repeat' (first|refine ct1 ?_|refine op1 ?_|refine opL ?_|refine op2 ?_|intro _)
 refine ac_perm [0,1,2,3,5,6,8,4,7,9,10,11,12,13,14,15] (by kernel_rfl) rfl hs (by kernel_rfl) ?_
 repeat' first|refine Vz ?_|intro _
 apply obl_fresh [];exact rfl;exact rfl;kernel_rfl;kernel_rfl
 intro s' hs'
 refine al_callK (args:=[str (totK c),widA n]) [] _ (by rw [hs'];exact more_spec) (fun u m1 hh=>?_) lpr
 obtain⟨k1,n1,rfl,rfl⟩:=hh
 refine al_nil (ae_fresh [] [.var n1 45 (widA n),.var k1 9 (str (totK c))] rfl rfl lpr rfl ?_)
 repeat' first|refine Vz ?_|intro _
 apply obl_fresh [];exact rfl;exact rfl;kernel_rfl;kernel_rfl
 intro s' hs'
 refine al_callK (args:=[str (balK a c),widA n]) [] _ (by rw [hs'];exact more_spec) (fun u m1 hh=>?_) lpr
 obtain⟨k2,n2,rfl,rfl⟩:=hh
 refine al_nil (ae_fresh [] [.var n2 45 (widA n),.var k2 9 (str (balK a c))] rfl rfl lpr rfl ?_)
 repeat' first|refine Vz ?_|intro _
 apply obl_read [4,5,6,7];exact rfl;exact rfl;kernel_rfl;intro s' hs'
 refine al_callK (args:=[dA d,.sl 1 [fnv 226 [.pointer (some ⟨k1,0,none⟩),.pointer (some ⟨n1,0,none⟩)],fnv 226 [.pointer (some ⟨k2,0,none⟩),.pointer (some ⟨n2,0,none⟩)]] none]) [.var n1 45 (widA n),.var k1 9 (str (totK c)),.var n2 45 (widA n),.var k2 9 (str (balK a c))] [] (by rw [hs'];exact does_spec (m1:=[.var n1 45 (widA n),.var k1 9 (str (totK c))]) (m2:=[.var n2 45 (widA n),.var k2 9 (str (balK a c))]) more_does more_does one_cells one_cells hd (moreR_dok hd)) (fun u m1 hh=>?_) lpr
 obtain⟨rfl,rfl⟩:=hh
 exact al_nil (ae_got rfl rfl)
 repeat' first|refine Vz ?_|intro _
 refine reE ?_
 rfl⟩
set_option maxHeartbeats 4000000 in
instance fnBBurn {d:List Ent}{a c:Bs}{n:Wd}{xs:List AV}[hx:Ents xs d]:Ans Tryz.prog GL 195 [.agg 1 [.sl 2 xs none],str a,str c,widA n] (DOk d) (.tup [dA (burnR d a c n).1,int (burnR d a c n).2]):=⟨fun hd=>by
 have h:=hx.out
 subst h
 refine qE Tryz.func195 rfl Tryz.ntmps195 rfl (fun _ hs=>?_)
 repeat' first|refine Zz ?_|intro _
 unfold burnR
 cases h1:[a].all nameB && (dnmB c && decide (n.n≠0))
 ·rw [if_pos (may1.1 h1)]
  repeat' first|refine Zz ?_|intro _
  refine reI ?_
  exact dnil_imp _
 rw [if_neg (fun e=>by rw [may1.2 e] at h1;cases h1)]
 repeat' (first|refine ct1 ?_|refine op1 ?_|refine opL ?_|refine op2 ?_|intro _)
 refine ac_perm [0,1,2,3,5,6,8,4,7,9,10,11,12,13,14,15] (by kernel_rfl) rfl hs (by kernel_rfl) ?_
 repeat' first|refine Vz ?_|intro _
 apply obl_fresh [];exact rfl;exact rfl;kernel_rfl;kernel_rfl
 intro s' hs'
 refine al_callK (args:=[str (totK c),widA n]) [] _ (by rw [hs'];exact less_spec) (fun u m1 hh=>?_) lpr
 obtain⟨k1,n1,rfl,rfl⟩:=hh
 refine al_nil (ae_fresh [] [.var n1 45 (widA n),.var k1 9 (str (totK c))] rfl rfl lpr rfl ?_)
 repeat' first|refine Vz ?_|intro _
 apply obl_fresh [];exact rfl;exact rfl;kernel_rfl;kernel_rfl
 intro s' hs'
 refine al_callK (args:=[str (balK a c),widA n]) [] _ (by rw [hs'];exact less_spec) (fun u m1 hh=>?_) lpr
 obtain⟨k2,n2,rfl,rfl⟩:=hh
 refine al_nil (ae_fresh [] [.var n2 45 (widA n),.var k2 9 (str (balK a c))] rfl rfl lpr rfl ?_)
 repeat' first|refine Vz ?_|intro _
 apply obl_read [3,4,5,6];exact rfl;exact rfl;kernel_rfl;intro s' hs'
 refine al_callK (args:=[dA d,.sl 1 [fnv 228 [.pointer (some ⟨k1,0,none⟩),.pointer (some ⟨n1,0,none⟩)],fnv 228 [.pointer (some ⟨k2,0,none⟩),.pointer (some ⟨n2,0,none⟩)]] none]) [.var n1 45 (widA n),.var k1 9 (str (totK c)),.var n2 45 (widA n),.var k2 9 (str (balK a c))] [] (by rw [hs'];exact does_spec (m1:=[.var n1 45 (widA n),.var k1 9 (str (totK c))]) (m2:=[.var n2 45 (widA n),.var k2 9 (str (balK a c))]) less_does less_does one_cells one_cells hd (lessR_dok hd)) (fun u m1 hh=>?_) lpr
 obtain⟨rfl,rfl⟩:=hh
 exact al_nil (ae_got rfl rfl)
 repeat' first|refine Vz ?_|intro _
 refine reE ?_
 rfl⟩
set_option maxHeartbeats 4000000 in
instance fnBMove {d:List Ent}{a b c:Bs}{n:Wd}{xs:List AV}[hx:Ents xs d]:Ans Tryz.prog GL 108 [.agg 1 [.sl 2 xs none],str a,str b,str c,widA n] (DOk d) (.tup [dA (moveR d a b c n).1,int (moveR d a b c n).2]):=⟨fun hd=>by
 have h:=hx.out
 subst h
 refine qE Tryz.func108 rfl Tryz.ntmps108 rfl (fun _ hs=>?_)
 repeat' first|refine Zz ?_|intro _
 unfold moveR
 cases h1:[a,b].all nameB && (dnmB c && decide (n.n≠0))
 ·rw [if_pos (may2.1 h1)]
  repeat' first|refine Zz ?_|intro _
  refine reI ?_
  exact dnil_imp _
 rw [if_neg (fun e=>by rw [may2.2 e] at h1;cases h1)]
 repeat' (first|refine ct1 ?_|refine op1 ?_|refine opL ?_|refine op2 ?_|intro _)
 refine ac_perm [0,1,2,4,6,7,9,3,5,8,10,11,12,13,14,15,16,17,18] (by kernel_rfl) rfl hs (by kernel_rfl) ?_
 repeat' first|refine Vz ?_|intro _
 apply obl_freshF [70] [];exact rfl;exact rfl;kernel_rfl;kernel_rfl;kernel_rfl;exact⟨⟨_,inferInstance⟩,trivial⟩
 intro s' hs'
 refine al_callK (args:=[str (balK a c),widA n]) [] _ (by rw [hs'];exact less_spec) (fun u m1 hh=>?_) lpr
 obtain⟨k1,n1,rfl,rfl⟩:=hh
 refine al_nil (ae_fresh [] [.var n1 45 (widA n),.var k1 9 (str (balK a c))] rfl rfl lpr rfl ?_)
 repeat' first|refine Vz ?_|intro _
 apply obl_freshF [70] [];exact rfl;exact rfl;kernel_rfl;kernel_rfl;kernel_rfl;exact⟨⟨_,inferInstance⟩,trivial⟩
 intro s' hs'
 refine al_callK (args:=[str (balK b c),widA n]) [] _ (by rw [hs'];exact more_spec) (fun u m1 hh=>?_) lpr
 obtain⟨k2,n2,rfl,rfl⟩:=hh
 refine al_nil (ae_fresh [] [.var n2 45 (widA n),.var k2 9 (str (balK b c))] rfl rfl lpr rfl ?_)
 repeat' first|refine Vz ?_|intro _
 apply obl_read [3,4,5,6];exact rfl;exact rfl;kernel_rfl;intro s' hs'
 refine al_callK (args:=[dA d,.sl 1 [fnv 228 [.pointer (some ⟨k1,0,none⟩),.pointer (some ⟨n1,0,none⟩)],fnv 226 [.pointer (some ⟨k2,0,none⟩),.pointer (some ⟨n2,0,none⟩)]] none]) [.var n1 45 (widA n),.var k1 9 (str (balK a c)),.var n2 45 (widA n),.var k2 9 (str (balK b c))] [] (by rw [hs'];exact does_spec (m1:=[.var n1 45 (widA n),.var k1 9 (str (balK a c))]) (m2:=[.var n2 45 (widA n),.var k2 9 (str (balK b c))]) less_does more_does one_cells one_cells hd (lessR_dok hd)) (fun u m1 hh=>?_) lpr
 obtain⟨rfl,rfl⟩:=hh
 exact al_nil (ae_got rfl rfl)
 iterate 3 refine ob1 ?_
 apply obl_float [70];kernel_rfl;kernel_rfl;kernel_rfl;exact⟨⟨_,inferInstance⟩,trivial⟩;intro g3
 repeat' first|refine Vz ?_|intro _
 generalize hR:thenR (lessR (balK a c) n) (moreR (balK b c) n) d=R
 by_cases hab:a=b
 ·rw [dT hab]
  repeat' first|refine Vz ?_|intro _
  by_cases he:R.2=16
  ·rw [dZ (nni he)]
   repeat' first|refine Vz ?_|intro _
   refine reE ?_
   simp [hab,he]
   rfl
  ·rw [dT he]
   repeat' first|refine Vz ?_|intro _
   refine reE ?_
   simp [hab,he]
   rfl
 ·rw [dZ hab]
  repeat' first|refine Vz ?_|intro _
  refine reE ?_
  simp [hab]
  rfl⟩
end Go.Proofs.YtlkkekpcofjbeaaGreatDoor

namespace Go.Proofs.YtlkkekpcofjbeaaGreatDoor
open Go Go.RowKit Tw Av
instance fnTHome {q:Int}{s k d:Bs}{a:Wd}{f g:Bs}{h t:Int}:Ans Tryz.prog GL 242 [.agg 12 [int q,str s,str k,.agg 7 [str d,widA a,str f,str g],int h,int t]] (s.length<=1000000000/\d.length<=1000000000) (boo (homeP ⟨q,s,k,d,a,f,g,h,t⟩)):=⟨fun hp=>by
 refine qE Tryz.func242 rfl Tryz.ntmps242 rfl (fun _ hs=>?_)
 repeat' first|refine Zz ?_|intro _
 refine reE ?_
 rfl⟩
abbrev mvA (d:Bs)(a:Wd)(f g:Bs):AV:=.agg 7 [.agg 7 [str d,widA a,str f,str g]]
instance fnMvMove {e:List Ent}{d:Bs}{n:Wd}{f g a b c:Bs}{xs:List AV}[hx:Ents xs e]:Ans Tryz.prog GL 197 [.agg 7 [.agg 7 [str d,widA n,str f,str g]],.agg 1 [.sl 2 xs none],str a,str b,str c] (DOk e) (.tup [dA (moveR e a b c n).1,int (moveR e a b c n).2]):=⟨fun hd=>by
 have h:=hx.out
 subst h
 refine qE Tryz.func197 rfl Tryz.ntmps197 rfl (fun _ hs=>?_)
 repeat' first|refine Zz ?_|intro _
 refine reE ?_
 rfl⟩
def Goes (F:FuncId)(cs:List Value)(m:List Av.Piece)(M:AV)(r:List Ent × Int):Prop:=Av.Spec Tryz.prog GL F (M::cs.map .lit) m fun u m'=>u=.tup [dA r.1,int r.2]/\m'=m
set_option maxHeartbeats 1000000 in
theorem tdoes_spec {f1 f2:FuncId}[FnB Tryz.prog f1][FnB Tryz.prog f2]{cs1 cs2:List Value}{m:List Av.Piece}{r1 r2:List Ent × Int}{q:Int}{s k d:Bs}{a:Wd}{f g:Bs}{h t:Int}(h1:Goes f1 cs1 m (mvA d a f g) r1)(h2:Goes f2 cs2 m (mvA d a f g) r2)(hc1:∀ v ∈ cs1,v.oneCell'=true)(hc2:∀ v ∈ cs2,v.oneCell'=true)(hp:s.length<=1000000000/\d.length<=1000000000){R:List Ent × Int}
  (hR:R=if chkP ⟨q,s,k,d,a,f,g,h,t⟩=false then ([],1) else if homeP ⟨q,s,k,d,a,f,g,h,t⟩=true then r1 else r2) :
  Av.Spec Tryz.prog GL 193 [.agg 12 [int q,str s,str k,.agg 7 [str d,widA a,str f,str g],int h,int t],fnv f1 cs1,fnv f2 cs2] m fun u m'=>u=.tup [dA R.1,int R.2]/\m'=m:=by
 subst hR
 refine qE Tryz.func193 rfl Tryz.ntmps193 rfl (fun _ hs=>?_)
 repeat' first|refine Zz ?_|intro _
 rename_i g3 g2 g1
 unfold chkN
 cases hc:chkP ⟨q,s,k,d,a,f,g,h,t⟩
 ·rw [if_neg (show ¬ false=true by decide),if_pos rfl,dT (show (1:Int)≠0 by decide)]
  repeat' first|refine Zz ?_|intro _
  refine reIKm _ m (dnil_imp _) ⟨rfl,rfl⟩ ?_
  exact sbl
 rw [if_pos rfl,if_neg (show ¬ true=false by decide),dZ (show ¬ (0:Int)≠0 by decide)]
 repeat' first|refine Zz ?_|intro _
 cases hh:homeP ⟨q,s,k,d,a,f,g,h,t⟩
 ·rw [if_neg (show ¬ false=true by decide)]
  repeat' first|refine Zz ?_|intro _
  refine al_callV (args:=[mvA d a f g]) (cs:=cs2) m [Av.Piece.var g1 238 (mvA d a f g),.var g2 70 (.agg 1 [.lit (.slice none 0 0)]),.var g3 49 (.agg 12 [int q,str s,str k,.agg 7 [str d,widA a,str f,str g],int h,int t])] (by rw [hs];exact h2) (fun u m' hh=>?_) (List.perm_append_comm (l₁:=[Av.Piece.var g1 238 (mvA d a f g),.var g2 70 (.agg 1 [.lit (.slice none 0 0)]),.var g3 49 (.agg 12 [int q,str s,str k,.agg 7 [str d,widA a,str f,str g],int h,int t])]) (l₂:=m)) (hcs:=hc2)
  obtain⟨rfl,rfl⟩:=hh
  refine al_st (fun ok w hS=>hS.perm (m':=[Av.Piece.var g1 238 (mvA d a f g),.var g2 70 (.agg 1 [.lit (.slice none 0 0)]),.var g3 49 (.agg 12 [int q,str s,str k,.agg 7 [str d,widA a,str f,str g],int h,int t])]++m') List.perm_append_comm) ?_
  repeat' first|refine Zz ?_|intro _
  refine reK m' ⟨rfl,rfl⟩ ?_
  exact sbl
 ·rw [if_pos rfl]
  repeat' first|refine Zz ?_|intro _
  refine al_callV (args:=[mvA d a f g]) (cs:=cs1) m [Av.Piece.var g1 238 (mvA d a f g),.var g2 70 (.agg 1 [.lit (.slice none 0 0)]),.var g3 49 (.agg 12 [int q,str s,str k,.agg 7 [str d,widA a,str f,str g],int h,int t])] (by rw [hs];exact h1) (fun u m' hh=>?_) (List.perm_append_comm (l₁:=[Av.Piece.var g1 238 (mvA d a f g),.var g2 70 (.agg 1 [.lit (.slice none 0 0)]),.var g3 49 (.agg 12 [int q,str s,str k,.agg 7 [str d,widA a,str f,str g],int h,int t])]) (l₂:=m)) (hcs:=hc1)
  obtain⟨rfl,rfl⟩:=hh
  refine al_st (fun ok w hS=>hS.perm (m':=[Av.Piece.var g1 238 (mvA d a f g),.var g2 70 (.agg 1 [.lit (.slice none 0 0)]),.var g3 49 (.agg 12 [int q,str s,str k,.agg 7 [str d,widA a,str f,str g],int h,int t])]++m') List.perm_append_comm) ?_
  repeat' first|refine Zz ?_|intro _
  refine reK m' ⟨rfl,rfl⟩ ?_
  exact sbl

section
variable {e:List Ent} {q:Int} {s k d:Bs} {a:Wd} {f g:Bs} {h t:Int} {g1 g2 g3:Nat} {z:Bs}
abbrev gE (g:Nat)(e:List Ent):Av.Piece:=.var g 70 (dA e)
abbrev gP (g:Nat)(q:Int)(s k d:Bs)(a:Wd)(f g':Bs)(h t:Int):Av.Piece:=.var g 49 (.agg 12 [int q,str s,str k,.agg 7 [str d,widA a,str f,str g'],int h,int t])
theorem send1 (hd:DOk e):Goes 194 [.pointer (some ⟨g1,0,none⟩)] [gP g2 q s k d a f g h t,gE g1 e] (mvA d a f g) (burnR e f d a):=by
 show Av.Spec _ _ _ [mvA d a f g,ptr g1] _ _
 refine qE Tryz.func194 rfl Tryz.ntmps194 rfl (fun _ hs=>?_)
 repeat' first|refine Zz ?_|intro _
 refine reK _ ⟨rfl,rfl⟩ ?_
 exact sbl
theorem send2 (hd:DOk e)(hs1:s.length<=1000000000):Goes 196 [.pointer (some ⟨g1,0,none⟩),.pointer (some ⟨g2,0,none⟩)] [gP g2 q s k d a f g h t,gE g1 e] (mvA d a f g) (moveR e f (escB s) d a):=by
 show Av.Spec _ _ _ [mvA d a f g,ptr g1,ptr g2] _ _
 refine qE Tryz.func196 rfl Tryz.ntmps196 rfl (fun _ hs=>?_)
 repeat' first|refine Zz ?_|intro _
 refine reK _ ⟨rfl,rfl⟩ ?_
 exact sbl
end
set_option maxHeartbeats 1000000 in
instance fnTSend {e:List Ent}{q:Int}{s k d:Bs}{a:Wd}{f g:Bs}{h t:Int}{xs:List AV}[hx:Ents xs e]:Ans Tryz.prog GL 124 [.agg 1 [.sl 2 xs none],.agg 12 [int q,str s,str k,.agg 7 [str d,widA a,str f,str g],int h,int t]] (DOk e/\s.length<=1000000000/\d.length<=1000000000) (.tup [dA (sendR e ⟨q,s,k,d,a,f,g,h,t⟩).1,int (sendR e ⟨q,s,k,d,a,f,g,h,t⟩).2]):=⟨fun hp=>by
 obtain⟨hd,hs1,hd1⟩:=hp
 have h':=hx.out
 subst h'
 refine qE Tryz.func124 rfl Tryz.ntmps124 rfl (fun _ hs=>?_)
 repeat' first|refine Zz ?_|intro _
 rename_i g1 g2 g3
 refine al_makeFunc (vs:=[.pointer (some ⟨g1,0,none⟩)]) ?_
 refine al_makeFunc (vs:=[.pointer (some ⟨g1,0,none⟩),.pointer (some ⟨g2,0,none⟩)]) ?_
 refine al_callK (args:=[.agg 12 [int q,str s,str k,.agg 7 [str d,widA a,str f,str g],int h,int t],fnv 194 [.pointer (some ⟨g1,0,none⟩)],fnv 196 [.pointer (some ⟨g1,0,none⟩),.pointer (some ⟨g2,0,none⟩)]]) [gP g2 q s k d a f g h t,gE g1 e] [.var g3 70 (.agg 1 [.lit (.slice none 0 0)])] (by rw [hs];exact tdoes_spec (send1 hd) (send2 hd hs1) (by simp [Value.oneCell']) (by simp [Value.oneCell']) ⟨hs1,hd1⟩ (R:=sendR e ⟨q,s,k,d,a,f,g,h,t⟩) rfl) (fun u m1 hh=>?_) (List.perm_append_comm (l₁:=[Av.Piece.var g3 70 (.agg 1 [.lit (.slice none 0 0)])]) (l₂:=[gP g2 q s k d a f g h t,gE g1 e]))
 obtain⟨rfl,rfl⟩:=hh
 repeat' first|refine Zz ?_|intro _
 refine reE ?_
 rfl⟩

theorem rcd_nil:rcdE []=10:=by rfl
theorem red_nil:redE []=10:=by rfl
theorem valE_no {d:List Ent}{k:Bs}(h:(gO d k).isSome=false):valE d k=[]:=by
 unfold valE
 cases hg:gO d k with
 | none=>rfl
 | some v=>rw [hg] at h;cases h
theorem rcd_zero {s:Bs}(h:rcdE s≠0):rcdV s=zeroC:=by
 unfold rcdE at h
 unfold rcdV
 split at h
 ·exact (h rfl).elim
 ·rename_i hn
  rw [if_neg hn]
theorem red_zero {s:Bs}(h:redE s≠0):redV s=zeroE:=by
 unfold redE at h
 unfold redV
 split at h
 ·exact (h rfl).elim
 ·rename_i hn
  rw [if_neg hn]
theorem rcd_may {s:Bs}(h:rcdE s=0):mayC (rcdV s)=true:=by
 unfold rcdE at h
 unfold rcdV
 split at h
 ·rename_i hn
  rw [if_pos hn]
  unfold rcOk at hn
  rw [bet,bet] at hn
  exact hn.2.2
 ·cases h
theorem rcd_or (s:Bs):mayC (rcdV s)=true\/rcdV s=zeroC:=by
 by_cases h:rcdE s=0
 ·exact .inl (rcd_may h)
 ·exact .inr (rcd_zero h)
theorem lat_mem {l:List Sta}(h:l≠[]):latC l ∈ l:=by
 rcases List.eq_nil_or_concat l with rfl|⟨l',a,rfl⟩
 ·exact (h rfl).elim
 ·unfold latC
  simp
structure CliF (x:Cli):Prop where
 ok:CliOk x
 w:CliW x
 r:Rise x.l
 n:x.l.length<=32
theorem zero_f:CliF zeroC:=⟨⟨by decide,by decide,by decide,by decide⟩,⟨by decide,by decide,fun s h=>by cases h⟩,List.Pairwise.nil,by decide⟩
theorem may_f {x:Cli}(h:mayC x=true):CliF x:=by
 obtain⟨⟨h1,h2,h3,h4,h5⟩,h6⟩:=all_iff.1 h
 have hc:=may_chk h
 have hb:∀ s ∈ x.l,1<=s.h/\s.h<=1099511627776/\0<=s.t/\s.t<=1099511627776:=fun s hs=>by
  obtain⟨_,_,c3,c4,c5,c6⟩:=chkH_iff.1 (hc s hs)
  exact⟨c3,c4,c5,c6⟩
 have hne:x.l≠[]:=fun e=>by rw [e] at h4;simp at h4
 have hl:=hb _ (lat_mem hne)
 have step:∀ i (hi:i + 1 < x.l.length),x.l[i].h < x.l[i + 1].h/\x.l[i].t<=x.l[i + 1].t:=fun i hi=>by
  have:=h6 (i + 1) hi
  unfold mayAt at this
  rw [bet,Bool.or_eq_true] at this
  rcases this.2 with h|h
  ·simp at h
  ·rw [show x.l.getD (i + 1 - 1) zeroS=x.l[i] by simp [List.getD,show i < x.l.length by omega],show x.l.getD (i + 1) zeroS=x.l[i + 1] by simp [List.getD,hi]] at h
   unfold fol at h
   simpa using h
 have far:∀ d i (hi:i + 1 + d < x.l.length),x.l[i].h < x.l[i + 1 + d].h/\x.l[i].t<=x.l[i + 1 + d].t:=by
  intro d
  induction d with
  | zero=>exact fun i hi=>step i hi
  | succ d ih=>
   intro i hi
   have a:=ih i (by omega)
   have b:=step (i + 1 + d) (by omega)
   exact⟨Int.lt_trans a.1 b.1,Int.le_trans a.2 b.2⟩
 refine⟨⟨by omega,by omega,by omega,by omega⟩,⟨by omega,by omega,fun s hs=>by
  have:=hb s hs
  omega⟩,?_,h5⟩
 unfold Rise
 rw [List.pairwise_iff_getElem]
 intro i j hi hj hij
 have:=far (j - i - 1) i (by omega)
 simpa [show i + 1 + (j - i - 1)=j by omega] using this
theorem clF (d:List Ent)(i:Bs):CliF (clR d i):=by
 unfold clR
 rcases rcd_or (valE d (kyO [67] i)) with h|h
 ·exact may_f h
 ·rw [h]
  exact zero_f
theorem imp_cz {b:Bool}:Imp (outOf [.agg 5 [.lit (.string ⟨#[]⟩),.lit (.string ⟨#[]⟩),.lit (.int .i64 0),.lit (.bool false),.lit (.slice none 0 0)],boo b]) (.tup [cliA zeroC,boo b]):=(inferInstance:ImpR (.tup [.agg 5 [.lit (.string ⟨#[]⟩),.lit (.string ⟨#[]⟩),.lit (.int .i64 0),.lit (.bool false),.lit (.slice none 0 0)],boo b]) (.tup [.agg 5 [str [],str [],int 0,boo false,.sl 34 [] none],boo b])).imp
instance fnCoClient {d:List Ent}{i:Bs}{xs:List AV}{id:Option Value}[hx:Ents xs d]:Ans Tryz.prog GL 109 [.agg 1 [.sl 2 xs id],str i] (DOk d) (.tup [cliA (clR d i),boo (clB d i)]):=⟨fun hd=>by
 have hv:=hd.val (kyO [67] i)
 refine qE Tryz.func109 rfl Tryz.ntmps109 rfl (fun _ hs=>?_)
 repeat' first|refine Zz ?_|intro _
 refine reE ?_
 rfl⟩
instance fnR18Client {d:List Ent}{i:Bs}{xs:List AV}{id:Option Value}[hx:Ents xs d]:Ans Tryz.prog GL 85 [.sl 2 xs id,str i] (DOk d) (.tup [cliA (clR d i),boo (clB d i)]):=⟨fun hd=>by
 have hv:=hd.val (kyO [67] i)
 unfold clR clB
 refine qE Tryz.func85 rfl Tryz.ntmps85 rfl (fun _ hs=>?_)
 repeat' first|refine Zz ?_|intro _
 cases hg:(gO d (kyO [67] i)).isSome
 ·have hn:=valE_no hg
  rw [hn,rcd_nil,rcd_zero (by rw [rcd_nil];decide)]
  repeat' first|refine Zz ?_|intro _
  refine reI ?_
  exact imp_cz
 ·by_cases he:rcdE (valE d (kyO [67] i))=0
  ·rw [dT he]
   repeat' first|refine Zz ?_|intro _
   rw [dZ (nni he)]
   repeat' first|refine Zz ?_|intro _
   refine reE ?_
   rfl
  ·rw [dZ he,rcd_zero he]
   repeat' first|refine Zz ?_|intro _
   rw [dT he]
   repeat' first|refine Zz ?_|intro _
   refine reI ?_
   exact imp_cz⟩
instance fnCoEnd {d:List Ent}{k:Bs}{xs:List AV}{id:Option Value}[hx:Ents xs d]:Ans Tryz.prog GL 25 [.agg 1 [.sl 2 xs id],str k] (DOk d) (.tup [endA (redV (valE d k)),boo (decide (redE (valE d k)=0))]):=⟨fun hd=>by
 have hv:=hd.val k
 refine qE Tryz.func25 rfl Tryz.ntmps25 rfl (fun _ hs=>?_)
 repeat' first|refine Zz ?_|intro _
 refine reE ?_
 rfl⟩
instance fnCoConn {d:List Ent}{i:Bs}{xs:List AV}{id:Option Value}[hx:Ents xs d]:Ans Tryz.prog GL 11 [.agg 1 [.sl 2 xs id],str i] (DOk d) (.tup [endA (enR d [75] i),boo (enB d [75] i)]):=⟨fun hd=>by
 refine qE Tryz.func11 rfl Tryz.ntmps11 rfl (fun _ hs=>?_)
 repeat' first|refine Zz ?_|intro _
 refine reE ?_
 rfl⟩
instance fnCoChan {d:List Ent}{i:Bs}{xs:List AV}{id:Option Value}[hx:Ents xs d]:Ans Tryz.prog GL 9 [.agg 1 [.sl 2 xs id],str i] (DOk d) (.tup [endA (enR d [72] i),boo (enB d [72] i)]):=⟨fun hd=>by
 refine qE Tryz.func9 rfl Tryz.ntmps9 rfl (fun _ hs=>?_)
 repeat' first|refine Zz ?_|intro _
 refine reE ?_
 rfl⟩
instance fnR18End {d:List Ent}{k i:Bs}{xs:List AV}{id:Option Value}[hx:Ents xs d]:Ans Tryz.prog GL 23 [.sl 2 xs id,str k,str i] (DOk d/\k.length<=1000000000) (.tup [endA (enR d k i),boo (enB d k i)]):=⟨fun hp=>by
 obtain⟨hd,hk⟩:=hp
 have hv:=hd.val (kyO k i)
 unfold enR enB
 refine qE Tryz.func23 rfl Tryz.ntmps23 rfl (fun _ hs=>?_)
 repeat' first|refine Zz ?_|intro _
 cases hg:(gO d (kyO k i)).isSome
 ·have hn:=valE_no hg
  rw [hn,red_nil,red_zero (by rw [red_nil];decide)]
  repeat' first|refine Zz ?_|intro _
  refine reE ?_
  rfl
 ·by_cases he:redE (valE d (kyO k i))=0
  ·rw [dT he]
   repeat' first|refine Zz ?_|intro _
   rw [dZ (nni he)]
   repeat' first|refine Zz ?_|intro _
   refine reE ?_
   rfl
  ·rw [dZ he,red_zero he]
   repeat' first|refine Zz ?_|intro _
   rw [dT he]
   repeat' first|refine Zz ?_|intro _
   refine reE ?_
   rfl⟩
instance fnCoNext {d:List Ent}{i:Bs}{xs:List AV}{id:Option Value}[hx:Ents xs d]:Ans Tryz.prog GL 120 [.agg 1 [.sl 2 xs id],str i] (DOk d) (int (nxR d i)):=⟨fun hd=>by
 have hv:=hd.val (kyO [78] i)
 unfold nxR
 refine qE Tryz.func120 rfl Tryz.ntmps120 rfl (fun _ hs=>?_)
 repeat' first|refine Zz ?_|intro _
 by_cases he:knE (valE d (kyO [78] i))=0
 ·rw [if_pos he,dZ (nni he)]
  repeat' first|refine Zz ?_|intro _
  refine reE ?_
  rfl
 ·rw [if_neg he,dT he]
  repeat' first|refine Zz ?_|intro _
  refine reE ?_
  rfl⟩

attribute [local irreducible] clB enB
set_option maxHeartbeats 1000000 in
instance fnCoState {d:List Ent}{i:Bs}{hh t h:Int}{xs:List AV}{id:Option Value}[hx:Ents xs d]:Ans Tryz.prog GL 211 [.agg 3 [.agg 1 [.sl 2 xs id],int hh,int t],str i,int h] (DOk d) (.tup [staA (stR d i h t),int (stE d i h t)]):=⟨fun hd=>by
 obtain⟨⟨_,_,c1,c2⟩,_⟩:=clF d i
 refine qE Tryz.func211 rfl Tryz.ntmps211 rfl (fun _ hs=>?_)
 repeat' first|refine Zz ?_|intro _
 unfold stR stE
 generalize hC:clR d i=C at *
 obtain⟨c,k,p,f,l⟩:=C
 dsimp only at c1 c2
 cases h1:clB d i
 ·repeat' first|refine Zz ?_|intro _
  refine reE ?_
  rfl
 rw [if_neg (show ¬ true=false by decide)]
 repeat' first|refine Zz ?_|intro _
 cases h2:actC ⟨c,k,p,f,l⟩ t
 ·repeat' first|refine Zz ?_|intro _
  refine reE ?_
  rfl
 rw [if_neg (show ¬ true=false by decide)]
 repeat' first|refine Zz ?_|intro _
 cases h3:(findC l h).isSome
 ·repeat' first|refine Zz ?_|intro _
  refine reE ?_
  rfl
 ·rw [if_neg (show ¬ true=false by decide),if_pos rfl]
  repeat' first|refine Zz ?_|intro _
  refine reE ?_
  rfl⟩
theorem pr_yes {d:List Ent}{i:Bs}{h t:Int}{k v:Bs}{p:Prf}(h0:stE d i h t=0):prE d i h t k v p=if holdsB (stR d i h t).r ⟨k,v⟩ p=false then 18 else 0:=by
 unfold prE
 rw [h0]
 cases holdsB (stR d i h t).r ⟨k,v⟩ p <;> rfl
theorem pr_no {d:List Ent}{i:Bs}{h t:Int}{k v:Bs}{p:Prf}(h0:stE d i h t≠0):prE d i h t k v p=stE d i h t:=by
 unfold prE
 rw [if_neg (fun e=>h0 e.1)]
set_option maxHeartbeats 1000000 in
instance fnCoProved {d:List Ent}{i k v:Bs}{h t a m:Int}{p:List Hsh}{xs ps:List AV}{id id2:Option Value}[hx:Ents xs d][hp:Hshs ps p]:Ans Tryz.prog GL 203 [.agg 1 [.sl 2 xs id],str i,int h,int t,str k,str v,.agg 3 [int a,int m,.sl 32 ps id2]] (DOk d/\m<=9223372036854775807) (int (prE d i h t k v ⟨a,m,p⟩)):=⟨fun hq=>by
 obtain⟨hd,hm⟩:=hq
 refine qE Tryz.func203 rfl Tryz.ntmps203 rfl (fun _ hs=>?_)
 repeat' first|refine Zz ?_|intro _
 by_cases h0:stE d i h t=0
 ·rw [dT h0,pr_yes h0]
  repeat' first|refine Zz ?_|intro _
  cases h1:holdsB (stR d i h t).r ⟨k,v⟩ ⟨a,m,p⟩
  ·repeat' first|refine Zz ?_|intro _
   refine reE ?_
   rfl
  ·repeat' first|refine Zz ?_|intro _
   refine reE ?_
   rw [h0]
   rfl
 ·rw [dZ h0,pr_no h0]
  repeat' first|refine Zz ?_|intro _
  refine reE ?_
  rfl⟩
end Go.Proofs.YtlkkekpcofjbeaaGreatDoor

namespace Go.Proofs.YtlkkekpcofjbeaaGreatDoor
open Go Go.RowKit Tw Av
attribute [local irreducible] clB enB
structure TxB (x:TxX):Prop where
 i:x.i.length<=400000000
 o:x.o.length<=400000000
 p:x.p.length<=400000000
 q:x.q.length<=400000000
 y:x.y.length<=400000000
 a:x.a.length<=400000000
 s:x.x.s.length<=400000000
 k:x.x.k.length<=400000000
 d:x.x.d.length<=400000000
 f:x.x.f.length<=400000000
 g:x.x.g.length<=400000000
 hh:x.h.h<=9223372036854775807
 ht:x.h.t<=9223372036854775807
 fm:x.f.m<=9223372036854775807
 gm:x.g.a.m<=9223372036854775807/\x.g.b.m<=9223372036854775807
instance fnLFails {d:List Ent}{h t e:Int}{xs:List AV}[hx:Ents xs d]:Ans Tryz.prog GL 30 [.agg 3 [.agg 1 [.sl 2 xs none],int h,int t],int e] True (.tup [dA (failR d e).1,repA (failR d e).2]):=⟨fun _=>by
 have h':=hx.out
 subst h'
 refine qE Tryz.func30 rfl Tryz.ntmps30 rfl (fun _ hs=>?_)
 repeat' first|refine Zz ?_|intro _
 refine reE ?_
 rfl⟩
instance fnLTold {d r:List Ent}{h t e a b:Int}{c:Bs}{xs ys:List AV}[hx:Ents xs d][hy:Ents ys r]:Ans Tryz.prog GL 107 [.agg 3 [.agg 1 [.sl 2 xs none],int h,int t],.agg 1 [.sl 2 ys none],int e,.agg 3 [int a,int b,str c]] True (.tup [dA (tellR d (r,e) ⟨a,b,c⟩).1,repA (tellR d (r,e) ⟨a,b,c⟩).2]):=⟨fun _=>by
 have h':=hx.out
 subst h'
 have h':=hy.out
 subst h'
 unfold tellR
 refine qE Tryz.func107 rfl Tryz.ntmps107 rfl (fun _ hs=>?_)
 repeat' first|refine Zz ?_|intro _
 by_cases he:e=0
 ·rw [if_pos he,dZ (nni he)]
  repeat' first|refine Zz ?_|intro _
  refine reE ?_
  rfl
 ·rw [if_neg he,dT he]
  repeat' first|refine Zz ?_|intro _
  refine reE ?_
  rfl⟩
instance fnLPuts {d:List Ent}{h t:Int}{k v:Bs}{xs:List AV}[hx:Ents xs d]:Ans Tryz.prog GL 112 [.agg 3 [.agg 1 [.sl 2 xs none],int h,int t],str k,str v] (DOk d) (.tup [dA (putsR d k v).1,repA (putsR d k v).2]):=⟨fun hd=>by
 have h':=hx.out
 subst h'
 refine qE Tryz.func112 rfl Tryz.ntmps112 rfl (fun _ hs=>?_)
 repeat' first|refine Zz ?_|intro _
 refine reE ?_
 rfl⟩
set_option maxHeartbeats 1000000 in
instance fnLFund {d:List Ent}{h t:Int}{x:TxX}{xs:List AV}[hx:Ents xs d]:Ans Tryz.prog GL 60 [.agg 3 [.agg 1 [.sl 2 xs none],int h,int t],txA x] (DOk d/\TxB x) (.tup [dA (fundR d x.x).1,repA (fundR d x.x).2]):=⟨fun hp=>by
 obtain⟨hd,hb⟩:=hp
 have b1:=hb.d
 have h':=hx.out
 subst h'
 refine qE Tryz.func60 rfl Tryz.ntmps60 rfl (fun _ hs=>?_)
 repeat' first|refine Zz ?_|intro _
 unfold fundR
 cases h1:denB x.x.d
 ·rw [if_pos (.inl rfl)]
  repeat' first|refine Zz ?_|intro _
  refine reE ?_
  rfl
 repeat' first|refine Zz ?_|intro _
 by_cases h2:0 < hopN x.x.d
 ·rw [if_pos (.inr (.inl h2)),dT (show (0:Int) < ((hopN x.x.d:Nat):Int) by omega)]
  repeat' first|refine Zz ?_|intro _
  refine reE ?_
  rfl
 rw [dZ (show ¬ (0:Int) < ((hopN x.x.d:Nat):Int) by omega)]
 repeat' first|refine Zz ?_|intro _
 cases h3:plainB x.x.g
 ·rw [if_pos (.inr (.inr rfl))]
  repeat' first|refine Zz ?_|intro _
  refine reE ?_
  rfl
 rw [if_neg (show ¬ (true=false\/0 < hopN x.x.d\/true=false) by simp [h2])]
 repeat' first|refine Zz ?_|intro _
 refine reE ?_
 rfl⟩
theorem updC_w {x:Cli}{h:Hdr}{m:Hsh}{t:Int}(hx:CliF x)(h1:h.h<=9223372036854775807)(h2:h.t<=9223372036854775807):CliW (updC x h m t):=by
 unfold updC
 split
 ·unfold putC
  split
  ·exact hx.w
  ·split
   ·exact⟨hx.w.n,hx.w.p,hx.w.s⟩
   ·have hn:=hx.n
    refine⟨?_,hx.w.p,fun s hs=>?_⟩
    ·show (insS x.l (stOf h)).length<=_
     unfold insS
     simp
     omega
    ·have hs:s ∈ insS x.l (stOf h):=hs
     unfold insS at hs
     rcases List.mem_append.1 (List.mem_of_mem_drop hs) with hs|hs
     ·exact hx.w.s s (List.mem_of_mem_take hs)
     ·rcases List.mem_cons.1 hs with rfl|hs
      ·exact⟨by show h.h<=_;omega,by show h.t<=_;omega⟩
      ·exact hx.w.s s (List.mem_of_mem_drop hs)
 ·exact zero_f.w
set_option maxHeartbeats 1000000 in
instance fnLUpdate {d:List Ent}{h t:Int}{x:TxX}{xs:List AV}[hx:Ents xs d]:Ans Tryz.prog GL 63 [.agg 3 [.agg 1 [.sl 2 xs none],int h,int t],txA x] (DOk d/\TxB x) (.tup [dA (updR d x t).1,repA (updR d x t).2]):=⟨fun hp=>by
 obtain⟨hd,hb⟩:=hp
 have b1:=hb.i
 have b2:=hb.hh
 have b3:=hb.ht
 have h':=hx.out
 subst h'
 have hC:CliOk (clR d x.i)/\x.h.h<=9223372036854775807/\x.h.t<=9223372036854775807:=⟨(clF d x.i).ok,by omega,by omega⟩
 refine qE Tryz.func63 rfl Tryz.ntmps63 rfl (fun _ hs=>?_)
 repeat' first|refine Zz ?_|intro _
 unfold updR
 cases h1:clB d x.i
 ·rw [if_pos rfl]
  repeat' first|refine Zz ?_|intro _
  refine reE ?_
  rfl
 rw [if_neg (show ¬ true=false by decide)]
 repeat' first|refine Zz ?_|intro _
 by_cases h3:updE (clR d x.i) x.h x.m t=0
 rotate_left
 ·rw [if_pos h3,dT h3]
  repeat' first|refine Zz ?_|intro _
  refine reE ?_
  rfl
 rw [if_neg (nni h3),dZ (nni h3)]
 have hw:CliW (updC (clR d x.i) x.h x.m t):=updC_w (clF d x.i) b2 b3
 repeat' first|refine Zz ?_|intro _
 refine reE ?_
 rfl⟩
end Go.Proofs.YtlkkekpcofjbeaaGreatDoor

namespace Go.Proofs.YtlkkekpcofjbeaaGreatDoor
open Go Go.RowKit Tw Av
end Go.Proofs.YtlkkekpcofjbeaaGreatDoor
