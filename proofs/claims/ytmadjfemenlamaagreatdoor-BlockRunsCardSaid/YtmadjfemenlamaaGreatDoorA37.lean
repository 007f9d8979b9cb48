/- maps that may be: what is asked of them, walked once more in plain words -/
import Derived.Test.YtmadjfemenlamaaGreatDoorA26
import Derived.Test.YtmadjfemenlamaaGreatDoorA27
import Derived.Test.YtmadjfemenlamaaGreatDoorA28
import Derived.Test.YtmadjfemenlamaaGreatDoorA36
namespace Go.Proofs.YtmadjfemenlamaaGreatDoor
open Go Go.RowKit Tw Av
theorem tlvI_len (c:Int)(n:Int):(tlvI c n).length≤16777219:=(inferInstance:LenLe (tlvI c n) 16777219).out
instance fnKOf {k i:Bs}:Ans Tryz.prog GL 215 [str k,str i] (k.length≤1000000000) (str (kyO k i)):=⟨fun h=>by
 refine spec_enter Tryz.func215 rfl Tryz.ntmps215 rfl (fun _ hs=>?_)
 have hl:=tlvT_len 105 i
 repeat' first|refine Vz ?_|intro _
 refine reE ?_
 rfl⟩
instance fnKWith {k i:Bs}{n:Int}:Ans Tryz.prog GL 259 [str k,str i,int n] (k.length≤1000000000∧n≤9223372036854775807) (str (kyW k i n)):=⟨fun h=>by
 obtain⟨h1,h2⟩:=h
 have hl:=tlvT_len 105 i
 have hl2:(kyO k i).length≤2000000000:=by unfold kyO;rw [List.length_append];omega
 have hl3:=tlvI_len 113 n
 refine spec_enter Tryz.func259 rfl Tryz.ntmps259 rfl (fun _ hs=>?_)
 repeat' first|refine Vz ?_|intro _
 refine reE ?_
 rfl⟩
instance fnKClient {i:Bs}:Ans Tryz.prog GL 147 [str i] True (str (kyO [67] i)):=⟨fun _=>by
 refine spec_enter Tryz.func147 rfl Tryz.ntmps147 rfl (fun _ hs=>?_)
 repeat' first|refine Vz ?_|intro _
 refine reE ?_
 rfl⟩
instance fnKConn {i:Bs}:Ans Tryz.prog GL 152 [str i] True (str (kyO [75] i)):=⟨fun _=>by
 refine spec_enter Tryz.func152 rfl Tryz.ntmps152 rfl (fun _ hs=>?_)
 repeat' first|refine Vz ?_|intro _
 refine reE ?_
 rfl⟩
instance fnKChan {i:Bs}:Ans Tryz.prog GL 123 [str i] True (str (kyO [72] i)):=⟨fun _=>by
 refine spec_enter Tryz.func123 rfl Tryz.ntmps123 rfl (fun _ hs=>?_)
 repeat' first|refine Vz ?_|intro _
 refine reE ?_
 rfl⟩
instance fnKNext {i:Bs}:Ans Tryz.prog GL 163 [str i] True (str (kyO [78] i)):=⟨fun _=>by
 refine spec_enter Tryz.func163 rfl Tryz.ntmps163 rfl (fun _ hs=>?_)
 repeat' first|refine Vz ?_|intro _
 refine reE ?_
 rfl⟩
instance fnKSent {i:Bs}{n:Int}:Ans Tryz.prog GL 161 [str i,int n] (n≤9223372036854775807) (str (kyW [80] i n)):=⟨fun h=>by
 refine spec_enter Tryz.func161 rfl Tryz.ntmps161 rfl (fun _ hs=>?_)
 repeat' first|refine Vz ?_|intro _
 refine reE ?_
 rfl⟩
instance fnKGot {i:Bs}{n:Int}:Ans Tryz.prog GL 166 [str i,int n] (n≤9223372036854775807) (str (kyW [71] i n)):=⟨fun h=>by
 refine spec_enter Tryz.func166 rfl Tryz.ntmps166 rfl (fun _ hs=>?_)
 repeat' first|refine Vz ?_|intro _
 refine reE ?_
 rfl⟩
instance fnKNumber {n:Int}:Ans Tryz.prog GL 164 [int n] (n≤9223372036854775807) (str (tlvI 110 n)):=⟨fun h=>by
 refine spec_enter Tryz.func164 rfl Tryz.ntmps164 rfl (fun _ hs=>?_)
 repeat' first|refine Vz ?_|intro _
 refine reE ?_
 rfl⟩
theorem reE_10 {s:Bs}{b:Bool}(h:reE' s b≠0):reE' s b=10:=by
 unfold reE' at h ⊢
 split at h <;> simp_all
instance fnKRead {s:Bs}:Ans Tryz.prog GL 249 [str s] (s.length≤1000000000) (.tup [int (knV s),int (knE s)]):=⟨fun hl=>by
 refine spec_enter Tryz.func249 rfl Tryz.ntmps249 rfl (fun _ hs=>?_)
 repeat' first|refine Vz ?_|intro _
 refine al_callK (args:=[str s]) [] _ (by rw [hs];exact tlvRead) (fun u m1 hh=>?_) (List.Perm.refl _)
 obtain⟨gr,rfl,rfl⟩:=hh
 repeat' first|refine Vz ?_|intro _
 refine ac_cond (fun h=>?_) (fun h=>?_)
 ·repeat' first|refine Vz ?_|intro _
  refine reE ?_
  have h2:knE s=10:=reE_10 h
  unfold knV
  rw [h2]
  rfl
 ·repeat' first|refine Vz ?_|intro _
  refine reE ?_
  have h1:knE s=0:=Classical.not_not.1 h
  unfold knV
  rw [h1]
  rfl⟩
instance fnR16Of {k i:Bs}:Ans Tryz.prog GL 74 [str k,str i] (k.length≤1000000000) (str (kyO k i)):=⟨fun h=>by
 have hl:=tlvT_len 105 i
 refine spec_enter Tryz.func74 rfl Tryz.ntmps74 rfl (fun _ hs=>?_)
 repeat' first|refine Vz ?_|intro _
 refine reE ?_
 rfl⟩
instance fnR16With {k i:Bs}{n:Int}:Ans Tryz.prog GL 205 [str k,str i,int n] (k.length≤1000000000∧n≤9223372036854775807) (str (kyW k i n)):=⟨fun h=>by
 obtain⟨h1,h2⟩:=h
 have hl:=tlvT_len 105 i
 have hl2:(kyO k i).length≤2000000000:=by unfold kyO;rw [List.length_append];omega
 have hl3:=tlvI_len 113 n
 refine spec_enter Tryz.func205 rfl Tryz.ntmps205 rfl (fun _ hs=>?_)
 repeat' first|refine Vz ?_|intro _
 refine reE ?_
 rfl⟩
instance fnR16Read {s:Bs}:Ans Tryz.prog GL 294 [str s] (s.length≤1000000000) (.tup [int (knV s),int (knE s)]):=⟨fun hl=>by
 refine spec_enter Tryz.func294 rfl Tryz.ntmps294 rfl (fun _ hs=>?_)
 repeat' first|refine Vz ?_|intro _
 refine ac_cond (fun h=>?_) (fun h=>?_)
 ·repeat' first|refine Vz ?_|intro _
  refine reE ?_
  have h2:knE s=10:=reE_10 h
  unfold knV
  rw [h2]
  rfl
 ·repeat' first|refine Vz ?_|intro _
  refine reE ?_
  have h1:knE s=0:=Classical.not_not.1 h
  unfold knV
  rw [h1]
  rfl⟩
theorem within {n l:Int}:Ans Tryz.prog GL 250 [int n,int l] True (boo (decide (l≤n∧n≤1099511627776))):=⟨fun _=>by
 refine spec_enter Tryz.func250 rfl Tryz.ntmps250 rfl (fun _ hs=>?_)
 repeat' first|refine Vz ?_|intro _
 refine gu1 (fun h=>?_) (fun h=>?_)
 ·repeat' first|refine Vz ?_|intro _
  refine reE ?_
  rw [decide_eq_decide.2 (show (l≤n∧n≤1099511627776)↔(n≤1099511627776) by omega)]
  rfl
 ·repeat' first|refine Vz ?_|intro _
  refine reE ?_
  rw [decide_eq_false (show ¬ (l≤n∧n≤1099511627776) by omega)]
  rfl⟩
instance {n l:Int}:Ans Tryz.prog GL 250 [int n,int l] True (boo (decide (l≤n∧n≤1099511627776))):=within
def chkN (x:Pkt):Int:=if chkP x=true then 0 else 1
theorem chkN_no {x:Pkt}(h:numsP x=false∨namsP x=false∨coinP x=false):chkN x=1:=by
 unfold chkN chkP
 rcases h with h|h|h <;> rw [h] <;> simp
theorem chkN_yes {x:Pkt}(h1:numsP x=true)(h2:namsP x=true)(h3:coinP x=true):chkN x=0:=by
 unfold chkN chkP
 rw [h1,h2,h3]
 rfl
theorem numsP_no {q h t:Int}{s k d f g:Bs}{a:Wd}(e:¬ (1≤q∧q≤1099511627776)∨¬ (0≤h∧h≤1099511627776)∨¬ (0≤t∧t≤1099511627776)∨(h=0∧t=0)):chkN ⟨q,s,k,d,a,f,g,h,t⟩=1:=chkN_no (.inl (decide_eq_false (fun e2=>by simp only at e2;omega)))
theorem namsP_no {q h t:Int}{s k d f g:Bs}{a:Wd}(e:partB s=false∨partB k=false∨denB d=false):chkN ⟨q,s,k,d,a,f,g,h,t⟩=1:=chkN_no (.inr (.inl (by
 unfold namsP
 rcases e with e|e|e <;> simp [e])))
theorem coinP_no {q h t:Int}{s k d f g:Bs}{a:Wd}(e:a.n=0∨plainB f=false∨plainB g=false):chkN ⟨q,s,k,d,a,f,g,h,t⟩=1:=chkN_no (.inr (.inr (by
 unfold coinP
 rcases e with e|e|e <;> simp [e])))
theorem chkN_all {q h t:Int}{s k d f g:Bs}{a:Wd}(h1:1≤q∧q≤1099511627776)(h2:0≤h∧h≤1099511627776)(h3:0≤t∧t≤1099511627776)(h4:¬ (h=0∧t=0))(p1:partB s=true)(p2:partB k=true)(p3:denB d=true)(z:¬ a.n=0)(c1:plainB f=true)(c2:plainB g=true):chkN ⟨q,s,k,d,a,f,g,h,t⟩=0:=
 chkN_yes (decide_eq_true (by simp only;omega)) (by unfold namsP;simp [p1,p2,p3]) (by unfold coinP;simp [z,c1,c2])
set_option maxHeartbeats 4000000 in
instance fnPCheck {q:Int}{s k d:Bs}{a:Wd}{f g:Bs}{h t:Int}:Ans Tryz.prog GL 157 [.agg 12 [int q,str s,str k,.agg 7 [str d,widA a,str f,str g],int h,int t]] (d.length≤1000000000) (int (chkN ⟨q,s,k,d,a,f,g,h,t⟩)):=⟨fun hd=>by
 refine spec_enter Tryz.func157 rfl Tryz.ntmps157 rfl (fun _ hs=>?_)
 by_cases h1:1≤q∧q≤1099511627776
 rotate_left
 ·repeat' first|refine Zz ?_|intro _
  refine reE ?_
  rw [numsP_no (.inl h1)]
  rfl
 by_cases h2:0≤h∧h≤1099511627776
 rotate_left
 ·repeat' first|refine Zz ?_|intro _
  refine reE ?_
  rw [numsP_no (.inr (.inl h2))]
  rfl
 by_cases h3:0≤t∧t≤1099511627776
 rotate_left
 ·repeat' first|refine Zz ?_|intro _
  refine reE ?_
  rw [numsP_no (.inr (.inr (.inl h3)))]
  rfl
 by_cases h4:h=0∧t=0
 ·repeat' first|refine Zz ?_|intro _
  refine reE ?_
  rw [numsP_no (.inr (.inr (.inr h4)))]
  rfl
 repeat' first|refine Zz ?_|intro _
 by_cases h5:h=0
 all_goals
  repeat' first|refine Zz ?_|intro _
  cases p1:partB s
  focus
   repeat' first|refine Zz ?_|intro _
   refine reE ?_
   rw [namsP_no (.inl p1)]
   rfl
  repeat' first|refine Zz ?_|intro _
  cases p2:partB k
  focus
   repeat' first|refine Zz ?_|intro _
   refine reE ?_
   rw [namsP_no (.inr (.inl p2))]
   rfl
  repeat' first|refine Zz ?_|intro _
  cases p3:denB d
  focus
   repeat' first|refine Zz ?_|intro _
   refine reE ?_
   rw [namsP_no (.inr (.inr p3))]
   rfl
  repeat' first|refine Zz ?_|intro _
  by_cases z:a.n=0
  focus
   repeat' first|refine Zz ?_|intro _
   refine reE ?_
   rw [coinP_no (.inl z)]
   rfl
  repeat' first|refine Zz ?_|intro _
  cases c1:plainB f
  focus
   repeat' first|refine Zz ?_|intro _
   refine reE ?_
   rw [coinP_no (.inr (.inl c1))]
   rfl
  repeat' first|refine Zz ?_|intro _
  cases c2:plainB g
  focus
   repeat' first|refine Zz ?_|intro _
   refine reE ?_
   rw [coinP_no (.inr (.inr c2))]
   rfl
  repeat' first|refine Zz ?_|intro _
  refine reE ?_
  rw [chkN_all h1 h2 h3 h4 p1 p2 p3 z c1 c2]
  rfl⟩
set_option maxHeartbeats 4000000 in
instance fnR13Check {q:Int}{s k d:Bs}{a:Wd}{f g:Bs}{h t:Int}:Ans Tryz.prog GL 201 [.agg 12 [int q,str s,str k,.agg 7 [str d,widA a,str f,str g],int h,int t]] (s.length≤1000000000∧k.length≤1000000000∧d.length≤1000000000∧f.length≤1000000000∧g.length≤1000000000) (int (chkN ⟨q,s,k,d,a,f,g,h,t⟩)):=⟨fun hd=>by
 obtain⟨l1,l2,l3,l4,l5⟩:=hd
 refine spec_enter Tryz.func201 rfl Tryz.ntmps201 rfl (fun _ hs=>?_)
 repeat' first|refine Zz ?_|intro _
 cases p1:partB s
 focus
  repeat' first|refine Zz ?_|intro _
  refine reE ?_
  rw [namsP_no (.inl p1)]
  rfl
 repeat' first|refine Zz ?_|intro _
 cases p2:partB k
 focus
  repeat' first|refine Zz ?_|intro _
  refine reE ?_
  rw [namsP_no (.inr (.inl p2))]
  rfl
 repeat' first|refine Zz ?_|intro _
 cases p3:denB d
 focus
  repeat' first|refine Zz ?_|intro _
  refine reE ?_
  rw [namsP_no (.inr (.inr p3))]
  rfl
 repeat' first|refine Zz ?_|intro _
 cases c1:plainB f
 focus
  repeat' first|refine Zz ?_|intro _
  refine reE ?_
  rw [coinP_no (.inr (.inl c1))]
  rfl
 repeat' first|refine Zz ?_|intro _
 cases c2:plainB g
 focus
  repeat' first|refine Zz ?_|intro _
  refine reE ?_
  rw [coinP_no (.inr (.inr c2))]
  rfl
 repeat' first|refine Zz ?_|intro _
 rw [wd_z]
 by_cases z:a.n=0
 focus
  repeat' first|refine Zz ?_|intro _
  refine reE ?_
  rw [coinP_no (.inl z)]
  rfl
 by_cases h1:1≤q∧q≤1099511627776
 rotate_left
 focus
  by_cases h0:q < 1
  all_goals
   repeat' first|refine Zz ?_|intro _
   refine reE ?_
   rw [numsP_no (.inl h1)]
   rfl
 by_cases h2:0≤h∧h≤1099511627776
 rotate_left
 focus
  by_cases h0:h < 0
  all_goals
   repeat' first|refine Zz ?_|intro _
   refine reE ?_
   rw [numsP_no (.inr (.inl h2))]
   rfl
 by_cases h3:0≤t∧t≤1099511627776
 rotate_left
 focus
  by_cases h0:t < 0
  all_goals
   repeat' first|refine Zz ?_|intro _
   refine reE ?_
   rw [numsP_no (.inr (.inr (.inl h3)))]
   rfl
 by_cases h4:h=0
 focus
  by_cases h5:t=0
  focus
   repeat' first|refine Zz ?_|intro _
   refine reE ?_
   rw [numsP_no (.inr (.inr (.inr ⟨h4,h5⟩)))]
   rfl
  repeat' first|refine Zz ?_|intro _
  refine reE ?_
  rw [chkN_all h1 h2 h3 (fun e=>h5 e.2) p1 p2 p3 z c1 c2]
  rfl
 repeat' first|refine Zz ?_|intro _
 refine reE ?_
 rw [chkN_all h1 h2 h3 (fun e=>h4 e.1) p1 p2 p3 z c1 c2]
 rfl⟩
end Go.Proofs.YtmadjfemenlamaaGreatDoor

namespace Go.Proofs.YtmadjfemenlamaaGreatDoor
open Go Go.RowKit Tw Av
instance {x:Pkt}:LenLe (pktB x) 150994971:=by unfold pktB;infer_instance
instance {n:Nat}:LenLe (beB n) 32:=⟨Nat.le_of_eq (beB_len n)⟩
instance fnPkBytes {q:Int}{s k d:Bs}{a:Wd}{f g:Bs}{h t:Int}:Ans Tryz.prog GL 260 [.agg 12 [int q,str s,str k,.agg 7 [str d,widA a,str f,str g],int h,int t]] (q≤9223372036854775807∧h≤9223372036854775807∧t≤9223372036854775807) (str (pktB ⟨q,s,k,d,a,f,g,h,t⟩)):=⟨fun hp=>by
 obtain⟨h1,h2,h3⟩:=hp
 refine spec_enter Tryz.func260 rfl Tryz.ntmps260 rfl (fun _ hs=>?_)
 repeat' first|refine Vz ?_|intro _
 refine reE ?_
 rfl⟩
instance fnRPkBytes {q:Int}{s k d:Bs}{a:Wd}{f g:Bs}{h t:Int}:Ans Tryz.prog GL 297 [.agg 12 [int q,str s,str k,.agg 7 [str d,widA a,str f,str g],int h,int t]] (q≤9223372036854775807∧h≤9223372036854775807∧t≤9223372036854775807) (str (pktB ⟨q,s,k,d,a,f,g,h,t⟩)):=⟨fun hp=>by
 obtain⟨h1,h2,h3⟩:=hp
 refine spec_enter Tryz.func297 rfl Tryz.ntmps297 rfl (fun _ hs=>?_)
 repeat' first|refine Vz ?_|intro _
 refine reE ?_
 rfl⟩
theorem ofH_two (a b:Bs):ofH [a,b]=shaH (a++b):=by
 unfold ofH
 simp
instance fnCommit {q:Int}{s k d:Bs}{a:Wd}{f g:Bs}{h t:Int}:Ans Tryz.prog GL 162 [.agg 12 [int q,str s,str k,.agg 7 [str d,widA a,str f,str g],int h,int t]] (q≤9223372036854775807∧h≤9223372036854775807∧t≤9223372036854775807) (str (comP ⟨q,s,k,d,a,f,g,h,t⟩)):=⟨fun hp=>by
 refine spec_enter Tryz.func162 rfl Tryz.ntmps162 rfl (fun _ hs=>?_)
 repeat' first|refine Vz ?_|intro _
 refine reE ?_
 rw [ofH_two]
 rfl⟩
instance fnRCommit {q:Int}{s k d:Bs}{a:Wd}{f g:Bs}{h t:Int}:Ans Tryz.prog GL 206 [.agg 12 [int q,str s,str k,.agg 7 [str d,widA a,str f,str g],int h,int t]] (q≤9223372036854775807∧h≤9223372036854775807∧t≤9223372036854775807) (str (comP ⟨q,s,k,d,a,f,g,h,t⟩)):=⟨fun hp=>by
 refine spec_enter Tryz.func206 rfl Tryz.ntmps206 rfl (fun _ hs=>?_)
 repeat' first|refine Vz ?_|intro _
 refine reE ?_
 rfl⟩
instance fnReceipt {a:Bs}:Ans Tryz.prog GL 172 [str a] (a.length≤1000000000) (str (rcpB a)):=⟨fun hl=>by
 haveI:LenLe a 1000000000:=⟨hl⟩
 refine spec_enter Tryz.func172 rfl Tryz.ntmps172 rfl (fun _ hs=>?_)
 repeat' first|refine Vz ?_|intro _
 refine reE ?_
 rw [ofH_two]
 rfl⟩
instance fnRReceipt {a:Bs}:Ans Tryz.prog GL 209 [str a] (a.length≤1000000000) (str (rcpB a)):=⟨fun hl=>by
 haveI:LenLe a 1000000000:=⟨hl⟩
 refine spec_enter Tryz.func209 rfl Tryz.ntmps209 rfl (fun _ hs=>?_)
 repeat' first|refine Vz ?_|intro _
 refine reE ?_
 rfl⟩
instance fnDone:Ans Tryz.prog GL 169 [] True (str [43]):=⟨fun _=>by
 refine spec_enter Tryz.func169 rfl Tryz.ntmps169 rfl (fun _ hs=>?_)
 repeat' first|refine Vz ?_|intro _
 refine reE ?_
 rfl⟩
instance fnFailed {e:Int}:Ans Tryz.prog GL 171 [int e] (0≤e∧e < 256) (str (failB e)):=⟨fun he=>by
 obtain⟨n,rfl⟩:=Int.eq_ofNat_of_zero_le he.1
 refine spec_enter Tryz.func171 rfl Tryz.ntmps171 rfl (fun _ hs=>?_)
 repeat' first|refine Vz ?_|intro _
 refine reE ?_
 rw [u8ofInt]
 rfl⟩
instance fnRFailed {e:Int}:Ans Tryz.prog GL 208 [int e] (0≤e∧e < 256) (str (failB e)):=⟨fun he=>by
 obtain⟨n,rfl⟩:=Int.eq_ofNat_of_zero_le he.1
 refine spec_enter Tryz.func208 rfl Tryz.ntmps208 rfl (fun _ hs=>?_)
 repeat' first|refine Vz ?_|intro _
 refine reE ?_
 rw [u8ofInt]
 rfl⟩
theorem lateP_eq (x:Pkt)(h t:Int):lateP x h t=(decide (x.h≠0∧x.h≤h) || decide (x.t≠0∧x.t≤t)):=by
 unfold lateP
 rw [Bool.decide_or]
set_option maxHeartbeats 2000000 in
instance fnRLate {q:Int}{s k d:Bs}{a:Wd}{f g:Bs}{h t h' t':Int}:Ans Tryz.prog GL 203 [.agg 12 [int q,str s,str k,.agg 7 [str d,widA a,str f,str g],int h,int t],int h',int t'] True (boo (lateP ⟨q,s,k,d,a,f,g,h,t⟩ h' t')):=⟨fun _=>by
 refine spec_enter Tryz.func203 rfl Tryz.ntmps203 rfl (fun _ hs=>?_)
 by_cases h1:h=0
 ·have e1:¬ (h≠0∧h≤h'):=fun e=>e.1 h1
  rw [lateP_eq,decide_eq_false e1,Bool.false_or]
  by_cases h2:t=0
  ·have e2:¬ (t≠0∧t≤t'):=fun e=>e.1 h2
   rw [decide_eq_false e2]
   repeat' first|refine Zz ?_|intro _
   refine reE ?_
   rfl
  ·rw [decide_eq_decide.2 (show (t≠0∧t≤t')↔t≤t' from ⟨fun e=>e.2,fun e=>⟨h2,e⟩⟩)]
   repeat' first|refine Zz ?_|intro _
   refine reE ?_
   rfl
 ·by_cases h3:h≤h'
  ·rw [lateP_eq,decide_eq_true (show h≠0∧h≤h' from ⟨h1,h3⟩),Bool.true_or]
   repeat' first|refine Zz ?_|intro _
   refine reE ?_
   rfl
  ·rw [lateP_eq,decide_eq_false (show ¬ (h≠0∧h≤h') from fun e=>h3 e.2),Bool.false_or]
   by_cases h2:t=0
   ·have e2:¬ (t≠0∧t≤t'):=fun e=>e.1 h2
    rw [decide_eq_false e2]
    repeat' first|refine Zz ?_|intro _
    refine reE ?_
    rfl
   ·rw [decide_eq_decide.2 (show (t≠0∧t≤t')↔t≤t' from ⟨fun e=>e.2,fun e=>⟨h2,e⟩⟩)]
    repeat' first|refine Zz ?_|intro _
    refine reE ?_
    rfl⟩
set_option maxHeartbeats 2000000 in
instance fnLate {q:Int}{s k d:Bs}{a:Wd}{f g:Bs}{h t h' t':Int}:Ans Tryz.prog GL 159 [.agg 12 [int q,str s,str k,.agg 7 [str d,widA a,str f,str g],int h,int t],int h',int t'] True (boo (lateP ⟨q,s,k,d,a,f,g,h,t⟩ h' t')):=⟨fun _=>by
 refine spec_enter Tryz.func159 rfl Tryz.ntmps159 rfl (fun _ hs=>?_)
 repeat' first|refine Vz ?_|intro _
 refine ac_loop (α:=Nat) (fun i=>[(20,.agg 4 [.agg 2 [int h,int h'],.agg 2 [int t,int t']]),(21,int i),(8,boo false)]) (fun i=>[]) (fun i=>i≤2∧(1≤i→¬ (h≠0∧h≤h'))∧(2≤i→¬ (t≠0∧t≤t'))) (fun i=>2 - i) 0 ⟨rfl,rfl,rfl,trivial⟩ (List.nil_sublist _) ⟨by decide,fun h=>absurd h (by decide),fun h=>absurd h (by decide)⟩ ?_
 rintro i ⟨hi,f1,f2⟩
 rcases i with _|_|_|i
 ·repeat' first|refine Zz ?_|intro _
  refine al_index (ps:=[.agg 2 [int h,int h'],.agg 2 [int t,int t']]) (u:=.agg 2 [int h,int h']) 0 ?_ rfl (by decide) rfl (by intro p hp;simp at hp;rcases hp with rfl|rfl <;> rfl) rfl
  by_cases h1:h=0
  ·repeat' first|refine Zz ?_|intro _
   refine ae_round 1 ⟨rfl,rfl,rfl,trivial⟩ (List.nil_sublist _) ⟨by decide,fun _ e=>e.1 h1,fun h=>absurd h (by decide)⟩ (by decide)
  ·by_cases h2:h≤h'
   ·rw [lateP_eq,decide_eq_true (show h≠0∧h≤h' from ⟨h1,h2⟩),Bool.true_or]
    repeat' first|refine Zz ?_|intro _
    refine reE ?_
    rw [decide_eq_true h2]
    rfl
   ·repeat' first|refine Zz ?_|intro _
    rw [decide_eq_false h2]
    refine ae_round 1 ⟨rfl,rfl,rfl,trivial⟩ (List.nil_sublist _) ⟨by decide,fun _ e=>h2 e.2,fun h=>absurd h (by decide)⟩ (by decide)
 ·repeat' first|refine Zz ?_|intro _
  refine al_index (ps:=[.agg 2 [int h,int h'],.agg 2 [int t,int t']]) (u:=.agg 2 [int t,int t']) 1 ?_ rfl (by decide) rfl (by intro p hp;simp at hp;rcases hp with rfl|rfl <;> rfl) rfl
  by_cases h1:t=0
  ·repeat' first|refine Zz ?_|intro _
   refine ae_round 2 ⟨rfl,rfl,rfl,trivial⟩ (List.nil_sublist _) ⟨by decide,fun _=>f1 (by decide),fun _ e=>e.1 h1⟩ (by decide)
  ·by_cases h2:t≤t'
   ·rw [lateP_eq,decide_eq_true (show t≠0∧t≤t' from ⟨h1,h2⟩),Bool.or_true]
    repeat' first|refine Zz ?_|intro _
    refine reE ?_
    rw [decide_eq_true h2]
    rfl
   ·repeat' first|refine Zz ?_|intro _
    rw [decide_eq_false h2]
    refine ae_round 2 ⟨rfl,rfl,rfl,trivial⟩ (List.nil_sublist _) ⟨by decide,fun _=>f1 (by decide),fun _ e=>h2 e.2⟩ (by decide)
 ·have e1:=f1 (by decide)
  have e2:=f2 (by decide)
  rw [lateP_eq,decide_eq_false e1,decide_eq_false e2]
  repeat' first|refine Zz ?_|intro _
  refine reE ?_
  rfl
 ·omega⟩
end Go.Proofs.YtmadjfemenlamaaGreatDoor

namespace Go.Proofs.YtmadjfemenlamaaGreatDoor
open Go Go.RowKit Tw Av
end Go.Proofs.YtmadjfemenlamaaGreatDoor

namespace Go.Proofs.YtmadjfemenlamaaGreatDoor
open Go Go.RowKit Tw Av
set_option maxHeartbeats 1000000 in
instance fnLParts {l:List Bs}{xs:List AV}{id:Option Value}[hx:Strs xs l]:Ans Tryz.prog GL 324 [.sl 1 xs id] (1≤l.length) (boo (l.all partB)):=⟨fun hn=>by
 have h:=hx.out
 subst h
 have hm:(l.map str).length=l.length:=List.length_map _
 refine spec_enter Tryz.func324 rfl Tryz.ntmps324 rfl (fun _ hs=>?_)
 refine ac_bnd 0 (fun hb=>?_)
 have hb:=maxLen_le hb
 repeat' first|refine Vz ?_|intro _
 refine ac_loop (α:=Nat) (fun i=>[(3,boo true),(6,.sl 1 (l.map str) id),(7,int (l.map str).length),(8,int i)]) (fun i=>[]) (fun i=>i≤l.length∧∀ j,(hj:j < l.length)→j < i→partB l[j]=true) (fun i=>l.length - i) 0 ⟨rfl,rfl,rfl,rfl,trivial⟩ (List.Sublist.refl _) ⟨Nat.zero_le _,fun _ _ h=>absurd h (by omega)⟩ ?_
 rintro i ⟨hi,hall⟩
 repeat' first|refine Vz ?_|intro _
 refine ac_cond (fun hlt=>?_) (fun hlt=>?_)
 ·have hil:i < l.length:=by omega
  repeat' first|refine Vz ?_|intro _
  cases hb:partB l[i]
  ·repeat' first|refine Vz ?_|intro _
   refine reE ?_
   have:l.all partB=false:=List.all_eq_false.2 ⟨_,List.getElem_mem hil,by rw [hb];decide⟩
   rw [this]
   rfl
  ·repeat' first|refine Vz ?_|intro _
   refine ae_round (i + 1) ⟨rfl,rfl,rfl,rfl,trivial⟩ (List.Sublist.refl _) ⟨hil,fun j hj h=>?_⟩ (by omega)
   by_cases hj2:j < i
   ·exact hall j hj hj2
   ·obtain rfl:j=i:=by omega
    exact hb
 ·obtain rfl:i=l.length:=by omega
  have ht:l.all partB=true:=List.all_eq_true.2 fun x hx=>by
   obtain⟨j,hj,rfl⟩:=List.getElem_of_mem hx
   exact hall j hj hj
  rw [ht]
  repeat' first|refine Vz ?_|intro _
  refine reE ?_
  rfl⟩
set_option maxHeartbeats 1000000 in
instance fnLCheck {s:Int}{o q p:Bs}:Ans Tryz.prog GL 300 [.agg 4 [int s,str o,str q,str p]] True (boo (chkE ⟨s,o,q,p⟩)):=⟨fun _=>by
 refine spec_enter Tryz.func300 rfl Tryz.ntmps300 rfl (fun _ hs=>?_)
 by_cases h1:s=1
 ·subst h1
  repeat' first|refine Zz ?_|intro _
  rw [show ([o,q].all partB)=(partB o && partB q) by simp]
  cases p1:partB o && partB q
  ·repeat' first|refine Zz ?_|intro _
   refine reE ?_
   simp only [Bool.and_eq_false_iff] at p1
   rcases p1 with p1|p1 <;> simp [outOf,chkE,p1]
  ·repeat' first|refine Zz ?_|intro _
   refine reE ?_
   simp only [Bool.and_eq_true] at p1
   simp [outOf,chkE,p1.1,p1.2]
 by_cases h2:2≤s∧s≤4
 ·have e:chkE ⟨s,o,q,p⟩=[o,q,p].all partB:=by
   unfold chkE
   simp only [if_neg h1]
   rw [decide_eq_true (show 1≤s∧s≤4 by omega)]
   simp
  rw [e]
  by_cases h3:s=2
  ·subst h3
   repeat' first|refine Zz ?_|intro _
   refine reE ?_
   rfl
  ·by_cases h4:s=3
   ·subst h4
    repeat' first|refine Zz ?_|intro _
    refine reE ?_
    rfl
   ·obtain rfl:s=4:=by omega
    repeat' first|refine Zz ?_|intro _
    refine reE ?_
    rfl
 ·have e:chkE ⟨s,o,q,p⟩=false:=by
   unfold chkE
   rw [decide_eq_false (show ¬ (1≤s∧s≤4) by omega)]
   rfl
  rw [e]
  have h3:s≠2:=by omega
  have h4:s≠3:=by omega
  have h5:s≠4:=by omega
  repeat' first|refine Zz ?_|intro _
  refine reE ?_
  rfl⟩
set_option maxHeartbeats 1000000 in
instance fnR15Check {s:Int}{o q p:Bs}:Ans Tryz.prog GL 129 [.agg 4 [int s,str o,str q,str p]] (o.length≤1000000000∧q.length≤1000000000∧p.length≤1000000000) (boo (chkE ⟨s,o,q,p⟩)):=⟨fun hp=>by
 obtain⟨l1,l2,l3⟩:=hp
 refine spec_enter Tryz.func129 rfl Tryz.ntmps129 rfl (fun _ hs=>?_)
 by_cases h1:1≤s∧s≤4
 ·have e:chkE ⟨s,o,q,p⟩=(partB o && (partB q && if s=1 then decide (p=[]) else partB p)):=by
   unfold chkE
   rw [decide_eq_true h1,Bool.true_and]
  rw [e]
  repeat' first|refine Zz ?_|intro _
  cases p1:partB o
  ·repeat' first|refine Zz ?_|intro _
   refine reE ?_
   rfl
  repeat' first|refine Zz ?_|intro _
  cases p2:partB q
  ·repeat' first|refine Zz ?_|intro _
   refine reE ?_
   rfl
  by_cases h2:s=1
  ·rw [if_pos h2]
   repeat' first|refine Zz ?_|intro _
   refine reE ?_
   rfl
  ·rw [if_neg h2]
   repeat' first|refine Zz ?_|intro _
   refine reE ?_
   rfl
 ·have e:chkE ⟨s,o,q,p⟩=false:=by
   unfold chkE
   rw [decide_eq_false h1]
   rfl
  rw [e]
  by_cases h2:s < 1
  all_goals
   repeat' first|refine Zz ?_|intro _
   refine reE ?_
   rfl⟩
end Go.Proofs.YtmadjfemenlamaaGreatDoor

namespace Go.Proofs.YtmadjfemenlamaaGreatDoor
open Go Go.RowKit Tw Av
end Go.Proofs.YtmadjfemenlamaaGreatDoor

namespace Go.Proofs.YtmadjfemenlamaaGreatDoor
open Go Go.RowKit Tw Av
theorem re_lens (s:Bs):(reS1 s).length≤s.length∧(reS2 s).length≤s.length∧(reS3 s).length≤s.length:=by
 have h1:=(rsT_len 115 8 s false).1
 have h2:=(rsT_len 111 32 (reS1 s) (reB1 s)).1
 have h3:=(rsT_len 113 32 (reS2 s) (reB2 s)).1
 unfold reS3
 unfold reS2 at *
 unfold reS1 at *
 exact⟨h1,by omega,by omega⟩
theorem re1 {s:Bs}:rsT 115 8 s false=reS1 s:=rfl
theorem re2 {s:Bs}:riB 115 4 s false=reB1 s:=rfl
theorem re3 {s:Bs}:rsT 111 32 (reS1 s) (reB1 s)=reS2 s:=rfl
theorem re4 {s:Bs}:rbT 111 32 (reS1 s) (reB1 s)=reB2 s:=rfl
theorem re5 {s:Bs}:rsT 113 32 (reS2 s) (reB2 s)=reS3 s:=rfl
theorem re6 {s:Bs}:rbT 113 32 (reS2 s) (reB2 s)=reB3 s:=rfl
theorem red_no {s:Bs}(h:reZ s≠0∨chkE (reV s)=false):redV s=zeroE∧redE s=10:=by
 have hk:reOk s=false:=by
  unfold reOk
  rcases h with h|h
  ·rw [decide_eq_false h,Bool.false_and]
  ·rw [h,Bool.and_false]
 unfold redV redE
 rw [hk]
 exact⟨rfl,rfl⟩
theorem red_yes {s:Bs}(h1:reZ s=0)(h2:chkE (reV s)=true):redV s=reV s∧redE s=0:=by
 have hk:reOk s=true:=by
  unfold reOk
  rw [decide_eq_true h1,h2]
  rfl
 unfold redV redE
 rw [hk]
 exact⟨rfl,rfl⟩
set_option maxHeartbeats 1000000 in
instance fnLRead {s:Bs}:Ans Tryz.prog GL 214 [str s] (s.length≤1000000000) (.tup [endA (redV s),int (redE s)]):=⟨fun hl=>by
 obtain⟨l1,l2,l3⟩:=re_lens s
 have e1:(reS1 s).length=(rsT 115 8 s false).length:=rfl
 have e2:(reS2 s).length=(rsT 111 32 (rsT 115 8 s false) (riB 115 4 s false)).length:=rfl
 have e3:(reS3 s).length=(rsT 113 32 (rsT 111 32 (rsT 115 8 s false) (riB 115 4 s false)) (rbT 111 32 (rsT 115 8 s false) (riB 115 4 s false))).length:=rfl
 refine spec_enter Tryz.func214 rfl Tryz.ntmps214 rfl (fun _ hs=>?_)
 repeat' first|refine Yz ?_|intro _
 refine al_callK (args:=[str s]) [] _ (by rw [hs];exact tlvRead) (fun u m1 hh=>?_) (List.Perm.refl _)
 obtain⟨gr,rfl,rfl⟩:=hh
 repeat' first|refine Yz ?_|intro _
 rw [re1,re2,re3,re4,re5,re6]
 by_cases hE:reZ s=0
 rotate_left
 ·obtain⟨v1,v2⟩:=red_no (.inl hE)
  rw [v1,v2]
  rw [show reZ s=reE' (rsT 112 32 (reS3 s) (reB3 s)) (rbT 112 32 (reS3 s) (reB3 s)) from rfl] at hE
  repeat' first|refine Yz ?_|intro _
  refine reE ?_
  rfl
 cases hc:chkE (reV s)
 ·obtain⟨v1,v2⟩:=red_no (.inr hc)
  rw [v1,v2]
  rw [show reZ s=reE' (rsT 112 32 (reS3 s) (reB3 s)) (rbT 112 32 (reS3 s) (reB3 s)) from rfl] at hE
  unfold reV at hc
  repeat' first|refine Yz ?_|intro _
  rw [hc]
  repeat' first|refine Yz ?_|intro _
  refine reE ?_
  rfl
 ·obtain⟨v1,v2⟩:=red_yes hE hc
  rw [v1,v2]
  rw [show reZ s=reE' (rsT 112 32 (reS3 s) (reB3 s)) (rbT 112 32 (reS3 s) (reB3 s)) from rfl] at hE
  unfold reV at hc
  repeat' first|refine Yz ?_|intro _
  rw [hc]
  repeat' first|refine Yz ?_|intro _
  refine reE ?_
  rfl⟩
set_option maxHeartbeats 1000000 in
instance fnR15Read {s:Bs}:Ans Tryz.prog GL 75 [str s] (s.length≤1000000000) (.tup [endA (redV s),int (redE s)]):=⟨fun hl=>by
 obtain⟨l1,l2,l3⟩:=re_lens s
 have e1:(reS1 s).length=(rsT 115 8 s false).length:=rfl
 have e2:(reS2 s).length=(rsT 111 32 (rsT 115 8 s false) (riB 115 4 s false)).length:=rfl
 have e3:(reS3 s).length=(rsT 113 32 (rsT 111 32 (rsT 115 8 s false) (riB 115 4 s false)) (rbT 111 32 (rsT 115 8 s false) (riB 115 4 s false))).length:=rfl
 have t1:=(rsT_len 111 32 (reS1 s) (reB1 s)).2
 have t2:=(rsT_len 113 32 (reS2 s) (reB2 s)).2
 have t3:=(rsT_len 112 32 (reS3 s) (reB3 s)).2
 have t4:(rtT 111 32 (reS1 s) (reB1 s)).length≤1000000000∧(rtT 113 32 (reS2 s) (reB2 s)).length≤1000000000∧(rtT 112 32 (reS3 s) (reB3 s)).length≤1000000000:=by omega
 refine spec_enter Tryz.func75 rfl Tryz.ntmps75 rfl (fun _ hs=>?_)
 repeat' first|refine Yz ?_|intro _
 rw [re1,re2,re3,re4,re5,re6]
 by_cases hE:reZ s=0
 rotate_left
 ·obtain⟨v1,v2⟩:=red_no (.inl hE)
  rw [v1,v2]
  rw [show reZ s=reE' (rsT 112 32 (reS3 s) (reB3 s)) (rbT 112 32 (reS3 s) (reB3 s)) from rfl] at hE
  repeat' first|refine Yz ?_|intro _
  refine reE ?_
  rfl
 cases hc:chkE (reV s)
 ·obtain⟨v1,v2⟩:=red_no (.inr hc)
  rw [v1,v2]
  rw [show reZ s=reE' (rsT 112 32 (reS3 s) (reB3 s)) (rbT 112 32 (reS3 s) (reB3 s)) from rfl] at hE
  unfold reV at hc
  repeat' first|refine Yz ?_|intro _
  rw [hc]
  repeat' first|refine Yz ?_|intro _
  refine reE ?_
  rfl
 ·obtain⟨v1,v2⟩:=red_yes hE hc
  rw [v1,v2]
  rw [show reZ s=reE' (rsT 112 32 (reS3 s) (reB3 s)) (rbT 112 32 (reS3 s) (reB3 s)) from rfl] at hE
  unfold reV at hc
  repeat' first|refine Yz ?_|intro _
  rw [hc]
  repeat' first|refine Yz ?_|intro _
  refine reE ?_
  rfl⟩
end Go.Proofs.YtmadjfemenlamaaGreatDoor

namespace Av
open Go Go.RowKit Tw
theorem SpecE.imp {P:Program}{gl:List (Nat × AV)}{f:FuncId}{args:List AV}{out out':AV}(h:SpecE P gl f args out)(hi:Imp out out'):SpecE P gl f args out':=Spec.mk fun ok w c hS hv=>
 Calls.mono (h.run ok w c hS hv) fun _ _ ⟨v,m',ok',cv,e0,e,r,st⟩=>by
  obtain⟨rfl,rfl⟩:=e0
  exact⟨out',[],ok',cv,⟨rfl,rfl⟩,e,hi _ _ _ r,st⟩
end Av
namespace Go.Proofs.YtmadjfemenlamaaGreatDoor
open Go Go.RowKit Tw Av
theorem DOk.le {d:List Ent}(h:DOk d):d.length≤1073741823:=Nat.le_trans h.l (by decide)
theorem DOk.val {d:List Ent}(h:DOk d)(k:Bs):(valE d k).length≤4000:=by
 unfold valE gO getR
 cases hf:d.find? fun x=>decide (x.key=k) with
 | none=>exact Nat.zero_le _
 | some x=>exact (h.f x (List.mem_of_find?_eq_some hf)).2
instance dGet {d:List Ent}{k:Bs}{xs:List AV}{id:Option Value}[hx:Ents xs d]:Ans Tryz.prog GL 167 [.agg 1 [.sl 2 xs id],str k] (DOk d) (.tup [str (valE d k),boo (gO d k).isSome]):=⟨fun h=>by
 have:=(fnGet (l:=d) (k:=k) (xs:=xs) (id:=id)).spec h.le
 rw [val_bs h.s,is_bs h.s] at this
 exact this⟩
instance dRGet {d:List Ent}{k:Bs}{xs:List AV}{id:Option Value}[hx:Ents xs d]:Ans Tryz.prog GL 65 [.sl 2 xs id,str k] (DOk d) (.tup [str (valE d k),boo (gO d k).isSome]):=⟨fun h=>by
 have:=(fnRGet (l:=d) (k:=k) (xs:=xs) (id:=id)).spec h.le
 rw [← Option.isSome_map (f:=(·.val))] at this
 exact this⟩
instance dPut {d:List Ent}{k v:Bs}{xs:List AV}{id:Option Value}[hx:Ents xs d]:Ans Tryz.prog GL 33 [.agg 1 [.sl 2 xs id],str k,str v] (DOk d) (.tup [dA (putR d k v).1,int (putR d k v).2]):=⟨fun h=>by
 refine SpecE.imp ((fnPut (l:=d) (k:=k) (v:=v) (xs:=xs) (id:=id)).spec h.le) ?_
 unfold putA putR
 by_cases he:putE d k v=0
 ·rw [if_pos he,if_pos he,he]
  exact Imp.of_eq rfl
 ·rw [if_neg he,if_neg he]
  exact (inferInstance:ImpR (.tup [.agg 1 [.lit (.slice none 0 0)],int (putE d k v)]) (.tup [.agg 1 [.sl 2 [] none],int (putE d k v)])).imp⟩
instance dRPut {d:List Ent}{k v:Bs}{xs:List AV}{id:Option Value}[hx:Ents xs d]:Ans Tryz.prog GL 27 [.sl 2 xs id,str k,str v] (DOk d) (.tup [.sl 2 ((putR d k v).1.map entA) none,int (putR d k v).2]):=⟨fun h=>by
 refine SpecE.imp ((fnRPut (l:=d) (k:=k) (v:=v) (xs:=xs) (id:=id)).spec h.le) ?_
 unfold putRA putR
 rw [putE_eq v h.s]
 by_cases he:putE d k v=0
 ·have e1:=putS_eq ⟨k,v⟩ h.s
  unfold putRS putS at e1
  rw [putE_eq v h.s] at e1
  simp only [if_pos he] at e1
  rw [if_pos he,if_pos he,he,e1]
  exact Imp.of_eq rfl
 ·rw [if_neg he,if_neg he]
  exact (inferInstance:ImpR (.tup [.lit (.slice none 0 0),int (putE d k v)]) (.tup [.sl 2 [] none,int (putE d k v)])).imp⟩
instance dDrop {d:List Ent}{k:Bs}{xs:List AV}[hx:Ents xs d]:Ans Tryz.prog GL 268 [.agg 1 [.sl 2 xs none],str k] (DOk d) (.tup [dA (drpL d k),boo (gO d k).isSome]):=⟨fun h=>by
 have:=(fnDrop (l:=d) (k:=k) (xs:=xs)).spec h.le
 rw [is_bs h.s] at this
 unfold drpL
 rw [is_bs h.s]
 exact this⟩
def fltR (d:List Ent)(k:Bs):List Ent:=d.filter fun x=>decide (x.key≠k)
theorem flt_all {d:List Ent}{k:Bs}(h:∀ x ∈ d,x.key≠k):fltR d k=d:=List.filter_eq_self.2 fun x hx=>decide_eq_true (h x hx)
theorem flt_drp {d:List Ent}{k:Bs}(h:Srt d):fltR d k=drpL d k:=by
 obtain⟨A,B,hA,hB,hl,h1⟩:=bs_parts k h
 rw [drp_parts hl h1]
 have eA:fltR A k=A:=flt_all fun x hx e=>by have:=hA x hx;rw [e,blt_irrefl] at this;cases this
 have eB:fltR B k=B:=flt_all fun x hx e=>by have:=hB x hx;rw [e,blt_irrefl] at this;cases this
 unfold fltR at *
 rcases h1 with⟨_,rfl⟩|⟨v,_,rfl⟩
 ·rw [List.filter_append,eA,eB]
 ·rw [List.filter_append,List.filter_cons,eA,eB]
  simp
theorem flt_is {d:List Ent}{k:Bs}:decide ((fltR d k).length < d.length)=(gO d k).isSome:=by
 unfold fltR gO getR
 rw [Option.isSome_map]
 cases hf:d.find? fun x=>decide (x.key=k) with
 | none=>
  rw [List.find?_eq_none] at hf
  have:d.filter (fun x=>decide (x.key≠k))=d:=List.filter_eq_self.2 fun x hx=>by simpa using hf x hx
  rw [this]
  simp
 | some x=>
  refine decide_eq_true ?_
  have hm:=List.mem_of_find?_eq_some hf
  have hk:=List.find?_some hf
  by_cases h:(d.filter fun x=>decide (x.key≠k)).length < d.length
  ·exact h
  ·exfalso
   have h2:=List.length_filter_eq_length_iff.1 (Nat.le_antisymm (List.length_filter_le _ _) (Nat.not_lt.1 h)) x hm
   simp at h2 hk
   exact h2 hk
set_option maxHeartbeats 1000000 in
instance dRDrop {d:List Ent}{k:Bs}{xs:List AV}{id:Option Value}[hx:Ents xs d]:Ans Tryz.prog GL 213 [.sl 2 xs id,str k] (DOk d) (.tup [.sl 2 ((drpL d k).map entA) none,boo (gO d k).isSome]):=⟨fun hd=>by
 have h:=hx.out
 subst h
 have hl:=hd.le
 have hm:(d.map entA).length=d.length:=List.length_map _
 rw [← flt_drp hd.s,← flt_is]
 refine spec_enter Tryz.func213 rfl Tryz.ntmps213 rfl (fun _ hs=>?_)
 repeat' first|refine Vz ?_|intro _
 refine ac_as 6 (Imp.nil (k:=2)) ?_
 refine ac_st (fun ok w h=>h.full 95 2 none 0) ?_
 refine ac_loop (α:=Nat × Value) (fun q=>[(0,.sl 2 (d.map entA) id),(1,str k),(6,.sl 2 ((fltR (d.take q.1) k).map entA) (some q.2)),(7,int q.1)]) (fun q=>[.tail 95 2 q.2]) (fun q=>q.1≤d.length) (fun q=>d.length - q.1) (0,.slice none 0 0) ⟨rfl,rfl,rfl,rfl,trivial⟩ (List.Sublist.refl _) (Nat.zero_le _) ?_
 rintro⟨i,v⟩ hi
 dsimp only at hi ⊢
 have hfl:(fltR (d.take i) k).length≤i:=Nat.le_trans (List.length_filter_le _ _) (List.length_take_le _ _)
 have hfm:((fltR (d.take i) k).map entA).length=(fltR (d.take i) k).length:=List.length_map _
 repeat' first|refine Vz ?_|intro _
 refine ac_cond (fun hlt=>?_) (fun hlt=>?_)
 ·have hil:i < d.length:=by omega
  have htk:d.take (i + 1)=d.take i++[d[i]]:=List.take_succ_eq_append_getElem hil
  repeat' first|refine Vz ?_|intro _
  refine ac_cond (fun h=>?_) (fun h=>?_)
  ·have e1:(fltR (d.take (i + 1)) k).map entA=(fltR (d.take i) k).map entA++[entA d[i]]:=by
    unfold fltR
    rw [htk,List.filter_append,List.filter_cons,if_pos (decide_eq_true h),List.filter_nil,List.map_append]
    rfl
   repeat' first|refine Vz ?_|intro _
   refine al_append (fun v'=>?_)
   repeat' first|refine Vz ?_|intro _
   rw [← e1]
   refine ae_round (i + 1,v') ⟨rfl,rfl,rfl,rfl,trivial⟩ ?_ hil (by dsimp only;omega)
   exact sbl
  ·have e1:fltR (d.take (i + 1)) k=fltR (d.take i) k:=by
    unfold fltR
    rw [htk,List.filter_append,List.filter_cons,if_neg (by rw [decide_eq_false h];decide),List.filter_nil,List.append_nil]
   repeat' first|refine Vz ?_|intro _
   rw [← e1]
   refine ae_round (i + 1,v) ⟨rfl,rfl,rfl,rfl,trivial⟩ ?_ hil (by dsimp only;omega)
   exact sbl
 ·obtain rfl:i=d.length:=by omega
  simp only [List.take_length] at hfl hfm ⊢
  repeat' first|refine Vz ?_|intro _
  refine reI ?_
  rw [hm,hfm,show decide (((fltR d k).length:Int) < (d.length:Int))=decide ((fltR d k).length < d.length) from decide_eq_decide.2 (by omega)]
  simp only [outOf]
  exact ImpR.imp⟩
end Go.Proofs.YtmadjfemenlamaaGreatDoor
