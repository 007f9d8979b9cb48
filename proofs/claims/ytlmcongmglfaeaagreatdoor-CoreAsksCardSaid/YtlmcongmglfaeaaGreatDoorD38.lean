/- ends of connections and channels, walked -/
import Derived.Test.YtlmcongmglfaeaaGreatDoorD27
import Derived.Test.YtlmcongmglfaeaaGreatDoorD28
import Derived.Test.YtlmcongmglfaeaaGreatDoorD29
import Derived.Test.YtlmcongmglfaeaaGreatDoorD37
namespace Go.Proofs.YtlmcongmglfaeaaGreatDoor
open Go Go.RowKit Tw Av
theorem tlvI_len (c:Int)(n:Int):(tlvI c n).length<=16777219:=(inferInstance:LenLe (tlvI c n) 16777219).out
instance fnKOf {k i:Bs}:Ans Tryz.prog GL 143 [str k,str i] (k.length<=1000000000) (str (kyO k i)):=⟨fun h=>by
 refine qE Tryz.func143 rfl Tryz.ntmps143 rfl (fun _ hs=>?_)
 have hl:=tlvT_len 105 i
 repeat' first|refine Vz ?_|intro _
 refine reE ?_
 rfl⟩
instance fnKWith {k i:Bs}{n:Int}:Ans Tryz.prog GL 308 [str k,str i,int n] (k.length<=1000000000/\n<=9223372036854775807) (str (kyW k i n)):=⟨fun h=>by
 obtain⟨h1,h2⟩:=h
 have hl:=tlvT_len 105 i
 have hl2:(kyO k i).length<=2000000000:=by unfold kyO;rw [lla];omega
 have hl3:=tlvI_len 113 n
 refine qE Tryz.func308 rfl Tryz.ntmps308 rfl (fun _ hs=>?_)
 repeat' first|refine Vz ?_|intro _
 refine reE ?_
 rfl⟩
instance fnKClient {i:Bs}:Ans Tryz.prog GL 54 [str i] True (str (kyO [67] i)):=⟨fun _=>by
 refine qE Tryz.func54 rfl Tryz.ntmps54 rfl (fun _ hs=>?_)
 repeat' first|refine Vz ?_|intro _
 refine reE ?_
 rfl⟩
instance fnKConn {i:Bs}:Ans Tryz.prog GL 60 [str i] True (str (kyO [75] i)):=⟨fun _=>by
 refine qE Tryz.func60 rfl Tryz.ntmps60 rfl (fun _ hs=>?_)
 repeat' first|refine Vz ?_|intro _
 refine reE ?_
 rfl⟩
instance fnKChan {i:Bs}:Ans Tryz.prog GL 62 [str i] True (str (kyO [72] i)):=⟨fun _=>by
 refine qE Tryz.func62 rfl Tryz.ntmps62 rfl (fun _ hs=>?_)
 repeat' first|refine Vz ?_|intro _
 refine reE ?_
 rfl⟩
instance fnKNext {i:Bs}:Ans Tryz.prog GL 69 [str i] True (str (kyO [78] i)):=⟨fun _=>by
 refine qE Tryz.func69 rfl Tryz.ntmps69 rfl (fun _ hs=>?_)
 repeat' first|refine Vz ?_|intro _
 refine reE ?_
 rfl⟩
instance fnKSent {i:Bs}{n:Int}:Ans Tryz.prog GL 216 [str i,int n] (n<=9223372036854775807) (str (kyW [80] i n)):=⟨fun h=>by
 refine qE Tryz.func216 rfl Tryz.ntmps216 rfl (fun _ hs=>?_)
 repeat' first|refine Vz ?_|intro _
 refine reE ?_
 rfl⟩
instance fnKGot {i:Bs}{n:Int}:Ans Tryz.prog GL 220 [str i,int n] (n<=9223372036854775807) (str (kyW [71] i n)):=⟨fun h=>by
 refine qE Tryz.func220 rfl Tryz.ntmps220 rfl (fun _ hs=>?_)
 repeat' first|refine Vz ?_|intro _
 refine reE ?_
 rfl⟩
instance fnKNumber {n:Int}:Ans Tryz.prog GL 218 [int n] (n<=9223372036854775807) (str (tlvI 110 n)):=⟨fun h=>by
 refine qE Tryz.func218 rfl Tryz.ntmps218 rfl (fun _ hs=>?_)
 repeat' first|refine Vz ?_|intro _
 refine reE ?_
 rfl⟩
theorem reE_10 {s:Bs}{b:Bool}(h:reE' s b≠0):reE' s b=10:=by
 unfold reE' at h ⊢
 split at h <;> simp_all
instance fnKRead {s:Bs}:Ans Tryz.prog GL 70 [str s] (s.length<=1000000000) (.tup [int (knV s),int (knE s)]):=⟨fun hl=>by
 refine qE Tryz.func70 rfl Tryz.ntmps70 rfl (fun _ hs=>?_)
 repeat' first|refine Vz ?_|intro _
 refine al_callK (args:=[str s]) [] _ (by rw [hs];exact tlvRead) (fun u m1 hh=>?_) lpr
 obtain⟨gr,rfl,rfl⟩:=hh
 repeat' first|refine Vz ?_|intro _
 refine ac_cond (fun h=>?_) (fun h=>?_)
 ·repeat' first|refine Vz ?_|intro _
  refine reE ?_
  have h2:knE s=10:=reE_10 h
  unfold knV
  rw [h2]
  rfl
 ·repeat' first|refine Vz ?_|intro _
  refine reE ?_
  have h1:knE s=0:=Classical.not_not.1 h
  unfold knV
  rw [h1]
  rfl⟩
instance fnR16Of {k i:Bs}:Ans Tryz.prog GL 57 [str k,str i] (k.length<=1000000000) (str (kyO k i)):=⟨fun h=>by
 have hl:=tlvT_len 105 i
 refine qE Tryz.func57 rfl Tryz.ntmps57 rfl (fun _ hs=>?_)
 repeat' first|refine Vz ?_|intro _
 refine reE ?_
 rfl⟩
instance fnR16With {k i:Bs}{n:Int}:Ans Tryz.prog GL 34 [str k,str i,int n] (k.length<=1000000000/\n<=9223372036854775807) (str (kyW k i n)):=⟨fun h=>by
 obtain⟨h1,h2⟩:=h
 have hl:=tlvT_len 105 i
 have hl2:(kyO k i).length<=2000000000:=by unfold kyO;rw [lla];omega
 have hl3:=tlvI_len 113 n
 refine qE Tryz.func34 rfl Tryz.ntmps34 rfl (fun _ hs=>?_)
 repeat' first|refine Vz ?_|intro _
 refine reE ?_
 rfl⟩
instance fnR16Read {s:Bs}:Ans Tryz.prog GL 71 [str s] (s.length<=1000000000) (.tup [int (knV s),int (knE s)]):=⟨fun hl=>by
 refine qE Tryz.func71 rfl Tryz.ntmps71 rfl (fun _ hs=>?_)
 repeat' first|refine Vz ?_|intro _
 refine ac_cond (fun h=>?_) (fun h=>?_)
 ·repeat' first|refine Vz ?_|intro _
  refine reE ?_
  have h2:knE s=10:=reE_10 h
  unfold knV
  rw [h2]
  rfl
 ·repeat' first|refine Vz ?_|intro _
  refine reE ?_
  have h1:knE s=0:=Classical.not_not.1 h
  unfold knV
  rw [h1]
  rfl⟩
theorem within {n l:Int}:Ans Tryz.prog GL 299 [int n,int l] True (boo (decide (l<=n/\n<=1099511627776))):=⟨fun _=>by
 refine qE Tryz.func299 rfl Tryz.ntmps299 rfl (fun _ hs=>?_)
 repeat' first|refine Vz ?_|intro _
 refine gu1 (fun h=>?_) (fun h=>?_)
 ·repeat' first|refine Vz ?_|intro _
  refine reE ?_
  rw [decide_eq_decide.2 (show (l<=n/\n<=1099511627776)↔(n<=1099511627776) by omega)]
  rfl
 ·repeat' first|refine Vz ?_|intro _
  refine reE ?_
  rw [dZ (show ¬ (l<=n/\n<=1099511627776) by omega)]
  rfl⟩
instance {n l:Int}:Ans Tryz.prog GL 299 [int n,int l] True (boo (decide (l<=n/\n<=1099511627776))):=within
def chkN (x:Pkt):Int:=if chkP x=true then 0 else 1
theorem chkN_no {x:Pkt}(h:numsP x=false\/namsP x=false\/coinP x=false):chkN x=1:=by
 unfold chkN chkP
 rcases h with h|h|h <;> rw [h] <;> simp
theorem chkN_yes {x:Pkt}(h1:numsP x=true)(h2:namsP x=true)(h3:coinP x=true):chkN x=0:=by
 unfold chkN chkP
 rw [h1,h2,h3]
 rfl
theorem numsP_no {q h t:Int}{s k d f g:Bs}{a:Wd}(e:¬ (1<=q/\q<=1099511627776)\/¬ (0<=h/\h<=1099511627776)\/¬ (0<=t/\t<=1099511627776)\/(h=0/\t=0)):chkN ⟨q,s,k,d,a,f,g,h,t⟩=1:=chkN_no (.inl (dZ (fun e2=>by simp only at e2;omega)))
theorem namsP_no {q h t:Int}{s k d f g:Bs}{a:Wd}(e:partB s=false\/partB k=false\/denB d=false):chkN ⟨q,s,k,d,a,f,g,h,t⟩=1:=chkN_no (.inr (.inl (by
 unfold namsP
 rcases e with e|e|e <;> simp [e])))
theorem coinP_no {q h t:Int}{s k d f g:Bs}{a:Wd}(e:a.n=0\/plainB f=false\/plainB g=false):chkN ⟨q,s,k,d,a,f,g,h,t⟩=1:=chkN_no (.inr (.inr (by
 unfold coinP
 rcases e with e|e|e <;> simp [e])))
theorem chkN_all {q h t:Int}{s k d f g:Bs}{a:Wd}(h1:1<=q/\q<=1099511627776)(h2:0<=h/\h<=1099511627776)(h3:0<=t/\t<=1099511627776)(h4:¬ (h=0/\t=0))(p1:partB s=true)(p2:partB k=true)(p3:denB d=true)(z:¬ a.n=0)(c1:plainB f=true)(c2:plainB g=true):chkN ⟨q,s,k,d,a,f,g,h,t⟩=0:=
 chkN_yes (dT (by simp only;omega)) (by unfold namsP;simp [p1,p2,p3]) (by unfold coinP;simp [z,c1,c2])
set_option maxHeartbeats 4000000 in
instance fnPCheck {q:Int}{s k d:Bs}{a:Wd}{f g:Bs}{h t:Int}:Ans Tryz.prog GL 212 [.agg 12 [int q,str s,str k,.agg 7 [str d,widA a,str f,str g],int h,int t]] (d.length<=1000000000) (int (chkN ⟨q,s,k,d,a,f,g,h,t⟩)):=⟨fun hd=>by
 refine qE Tryz.func212 rfl Tryz.ntmps212 rfl (fun _ hs=>?_)
 by_cases h1:1<=q/\q<=1099511627776
 rotate_left
 ·repeat' first|refine Zz ?_|intro _
  refine reE ?_
  rw [numsP_no (.inl h1)]
  rfl
 by_cases h2:0<=h/\h<=1099511627776
 rotate_left
 ·repeat' first|refine Zz ?_|intro _
  refine reE ?_
  rw [numsP_no (.inr (.inl h2))]
  rfl
 by_cases h3:0<=t/\t<=1099511627776
 rotate_left
 ·repeat' first|refine Zz ?_|intro _
  refine reE ?_
  rw [numsP_no (.inr (.inr (.inl h3)))]
  rfl
 by_cases h4:h=0/\t=0
 ·repeat' first|refine Zz ?_|intro _
  refine reE ?_
  rw [numsP_no (.inr (.inr (.inr h4)))]
  rfl
 repeat' first|refine Zz ?_|intro _
 by_cases h5:h=0
 all_goals
  repeat' first|refine Zz ?_|intro _
  cases p1:partB s
  focus
   repeat' first|refine Zz ?_|intro _
   refine reE ?_
   rw [namsP_no (.inl p1)]
   rfl
  repeat' first|refine Zz ?_|intro _
  cases p2:partB k
  focus
   repeat' first|refine Zz ?_|intro _
   refine reE ?_
   rw [namsP_no (.inr (.inl p2))]
   rfl
  repeat' first|refine Zz ?_|intro _
  cases p3:denB d
  focus
   repeat' first|refine Zz ?_|intro _
   refine reE ?_
   rw [namsP_no (.inr (.inr p3))]
   rfl
  repeat' first|refine Zz ?_|intro _
  by_cases z:a.n=0
  focus
   repeat' first|refine Zz ?_|intro _
   refine reE ?_
   rw [coinP_no (.inl z)]
   rfl
  repeat' first|refine Zz ?_|intro _
  cases c1:plainB f
  focus
   repeat' first|refine Zz ?_|intro _
   refine reE ?_
   rw [coinP_no (.inr (.inl c1))]
   rfl
  repeat' first|refine Zz ?_|intro _
  cases c2:plainB g
  focus
   repeat' first|refine Zz ?_|intro _
   refine reE ?_
   rw [coinP_no (.inr (.inr c2))]
   rfl
  repeat' first|refine Zz ?_|intro _
  refine reE ?_
  rw [chkN_all h1 h2 h3 h4 p1 p2 p3 z c1 c2]
  rfl⟩
set_option maxHeartbeats 4000000 in
instance fnR13Check {q:Int}{s k d:Bs}{a:Wd}{f g:Bs}{h t:Int}:Ans Tryz.prog GL 244 [.agg 12 [int q,str s,str k,.agg 7 [str d,widA a,str f,str g],int h,int t]] (s.length<=1000000000/\k.length<=1000000000/\d.length<=1000000000/\f.length<=1000000000/\g.length<=1000000000) (int (chkN ⟨q,s,k,d,a,f,g,h,t⟩)):=⟨fun hd=>by
 obtain⟨l1,l2,l3,l4,l5⟩:=hd
 refine qE Tryz.func244 rfl Tryz.ntmps244 rfl (fun _ hs=>?_)
 repeat' first|refine Zz ?_|intro _
 cases p1:partB s
 focus
  repeat' first|refine Zz ?_|intro _
  refine reE ?_
  rw [namsP_no (.inl p1)]
  rfl
 repeat' first|refine Zz ?_|intro _
 cases p2:partB k
 focus
  repeat' first|refine Zz ?_|intro _
  refine reE ?_
  rw [namsP_no (.inr (.inl p2))]
  rfl
 repeat' first|refine Zz ?_|intro _
 cases p3:denB d
 focus
  repeat' first|refine Zz ?_|intro _
  refine reE ?_
  rw [namsP_no (.inr (.inr p3))]
  rfl
 repeat' first|refine Zz ?_|intro _
 cases c1:plainB f
 focus
  repeat' first|refine Zz ?_|intro _
  refine reE ?_
  rw [coinP_no (.inr (.inl c1))]
  rfl
 repeat' first|refine Zz ?_|intro _
 cases c2:plainB g
 focus
  repeat' first|refine Zz ?_|intro _
  refine reE ?_
  rw [coinP_no (.inr (.inr c2))]
  rfl
 repeat' first|refine Zz ?_|intro _
 rw [wd_z]
 by_cases z:a.n=0
 focus
  repeat' first|refine Zz ?_|intro _
  refine reE ?_
  rw [coinP_no (.inl z)]
  rfl
 by_cases h1:1<=q/\q<=1099511627776
 rotate_left
 focus
  by_cases h0:q < 1
  all_goals
   repeat' first|refine Zz ?_|intro _
   refine reE ?_
   rw [numsP_no (.inl h1)]
   rfl
 by_cases h2:0<=h/\h<=1099511627776
 rotate_left
 focus
  by_cases h0:h < 0
  all_goals
   repeat' first|refine Zz ?_|intro _
   refine reE ?_
   rw [numsP_no (.inr (.inl h2))]
   rfl
 by_cases h3:0<=t/\t<=1099511627776
 rotate_left
 focus
  by_cases h0:t < 0
  all_goals
   repeat' first|refine Zz ?_|intro _
   refine reE ?_
   rw [numsP_no (.inr (.inr (.inl h3)))]
   rfl
 by_cases h4:h=0
 focus
  by_cases h5:t=0
  focus
   repeat' first|refine Zz ?_|intro _
   refine reE ?_
   rw [numsP_no (.inr (.inr (.inr ⟨h4,h5⟩)))]
   rfl
  repeat' first|refine Zz ?_|intro _
  refine reE ?_
  rw [chkN_all h1 h2 h3 (fun e=>h5 e.2) p1 p2 p3 z c1 c2]
  rfl
 repeat' first|refine Zz ?_|intro _
 refine reE ?_
 rw [chkN_all h1 h2 h3 (fun e=>h4 e.1) p1 p2 p3 z c1 c2]
 rfl⟩

instance {x:Pkt}:LenLe (pktB x) 150994971:=by unfold pktB;infer_instance
instance {n:Nat}:LenLe (beB n) 32:=⟨Nat.le_of_eq (beB_len n)⟩
instance fnPkBytes {q:Int}{s k d:Bs}{a:Wd}{f g:Bs}{h t:Int}:Ans Tryz.prog GL 309 [.agg 12 [int q,str s,str k,.agg 7 [str d,widA a,str f,str g],int h,int t]] (q<=9223372036854775807/\h<=9223372036854775807/\t<=9223372036854775807) (str (pktB ⟨q,s,k,d,a,f,g,h,t⟩)):=⟨fun hp=>by
 obtain⟨h1,h2,h3⟩:=hp
 refine qE Tryz.func309 rfl Tryz.ntmps309 rfl (fun _ hs=>?_)
 repeat' first|refine Vz ?_|intro _
 refine reE ?_
 rfl⟩
instance fnRPkBytes {q:Int}{s k d:Bs}{a:Wd}{f g:Bs}{h t:Int}:Ans Tryz.prog GL 324 [.agg 12 [int q,str s,str k,.agg 7 [str d,widA a,str f,str g],int h,int t]] (q<=9223372036854775807/\h<=9223372036854775807/\t<=9223372036854775807) (str (pktB ⟨q,s,k,d,a,f,g,h,t⟩)):=⟨fun hp=>by
 obtain⟨h1,h2,h3⟩:=hp
 refine qE Tryz.func324 rfl Tryz.ntmps324 rfl (fun _ hs=>?_)
 repeat' first|refine Vz ?_|intro _
 refine reE ?_
 rfl⟩
theorem ofH_two (a b:Bs):ofH [a,b]=shaH (a++b):=by
 unfold ofH
 simp
instance fnCommit {q:Int}{s k d:Bs}{a:Wd}{f g:Bs}{h t:Int}:Ans Tryz.prog GL 217 [.agg 12 [int q,str s,str k,.agg 7 [str d,widA a,str f,str g],int h,int t]] (q<=9223372036854775807/\h<=9223372036854775807/\t<=9223372036854775807) (str (comP ⟨q,s,k,d,a,f,g,h,t⟩)):=⟨fun hp=>by
 refine qE Tryz.func217 rfl Tryz.ntmps217 rfl (fun _ hs=>?_)
 repeat' first|refine Vz ?_|intro _
 refine reE ?_
 rw [ofH_two]
 rfl⟩
instance fnRCommit {q:Int}{s k d:Bs}{a:Wd}{f g:Bs}{h t:Int}:Ans Tryz.prog GL 247 [.agg 12 [int q,str s,str k,.agg 7 [str d,widA a,str f,str g],int h,int t]] (q<=9223372036854775807/\h<=9223372036854775807/\t<=9223372036854775807) (str (comP ⟨q,s,k,d,a,f,g,h,t⟩)):=⟨fun hp=>by
 refine qE Tryz.func247 rfl Tryz.ntmps247 rfl (fun _ hs=>?_)
 repeat' first|refine Vz ?_|intro _
 refine reE ?_
 rfl⟩
instance fnReceipt {a:Bs}:Ans Tryz.prog GL 225 [str a] (a.length<=1000000000) (str (rcpB a)):=⟨fun hl=>by
 haveI:LenLe a 1000000000:=⟨hl⟩
 refine qE Tryz.func225 rfl Tryz.ntmps225 rfl (fun _ hs=>?_)
 repeat' first|refine Vz ?_|intro _
 refine reE ?_
 rw [ofH_two]
 rfl⟩
instance fnRReceipt {a:Bs}:Ans Tryz.prog GL 249 [str a] (a.length<=1000000000) (str (rcpB a)):=⟨fun hl=>by
 haveI:LenLe a 1000000000:=⟨hl⟩
 refine qE Tryz.func249 rfl Tryz.ntmps249 rfl (fun _ hs=>?_)
 repeat' first|refine Vz ?_|intro _
 refine reE ?_
 rfl⟩
instance fnDone:Ans Tryz.prog GL 222 [] True (str [43]):=⟨fun _=>by
 refine qE Tryz.func222 rfl Tryz.ntmps222 rfl (fun _ hs=>?_)
 repeat' first|refine Vz ?_|intro _
 refine reE ?_
 rfl⟩
instance fnFailed {e:Int}:Ans Tryz.prog GL 224 [int e] (0<=e/\e < 256) (str (failB e)):=⟨fun he=>by
 obtain⟨n,rfl⟩:=Int.eq_ofNat_of_zero_le he.1
 refine qE Tryz.func224 rfl Tryz.ntmps224 rfl (fun _ hs=>?_)
 repeat' first|refine Vz ?_|intro _
 refine reE ?_
 rw [u8ofInt]
 rfl⟩
instance fnRFailed {e:Int}:Ans Tryz.prog GL 121 [int e] (0<=e/\e < 256) (str (failB e)):=⟨fun he=>by
 obtain⟨n,rfl⟩:=Int.eq_ofNat_of_zero_le he.1
 refine qE Tryz.func121 rfl Tryz.ntmps121 rfl (fun _ hs=>?_)
 repeat' first|refine Vz ?_|intro _
 refine reE ?_
 rw [u8ofInt]
 rfl⟩
theorem lateP_eq (x:Pkt)(h t:Int):lateP x h t=(decide (x.h≠0/\x.h<=h) || decide (x.t≠0/\x.t<=t)):=by
 unfold lateP
 rw [Bool.decide_or]
set_option maxHeartbeats 2000000 in
instance fnRLate {q:Int}{s k d:Bs}{a:Wd}{f g:Bs}{h t h' t':Int}:Ans Tryz.prog GL 245 [.agg 12 [int q,str s,str k,.agg 7 [str d,widA a,str f,str g],int h,int t],int h',int t'] True (boo (lateP ⟨q,s,k,d,a,f,g,h,t⟩ h' t')):=⟨fun _=>by
 refine qE Tryz.func245 rfl Tryz.ntmps245 rfl (fun _ hs=>?_)
 by_cases h1:h=0
 ·have e1:¬ (h≠0/\h<=h'):=fun e=>e.1 h1
  rw [lateP_eq,dZ e1,Bool.false_or]
  by_cases h2:t=0
  ·have e2:¬ (t≠0/\t<=t'):=fun e=>e.1 h2
   rw [dZ e2]
   repeat' first|refine Zz ?_|intro _
   refine reE ?_
   rfl
  ·rw [decide_eq_decide.2 (show (t≠0/\t<=t')↔t<=t' from ⟨fun e=>e.2,fun e=>⟨h2,e⟩⟩)]
   repeat' first|refine Zz ?_|intro _
   refine reE ?_
   rfl
 ·by_cases h3:h<=h'
  ·rw [lateP_eq,dT (show h≠0/\h<=h' from ⟨h1,h3⟩),Bool.true_or]
   repeat' first|refine Zz ?_|intro _
   refine reE ?_
   rfl
  ·rw [lateP_eq,dZ (show ¬ (h≠0/\h<=h') from fun e=>h3 e.2),Bool.false_or]
   by_cases h2:t=0
   ·have e2:¬ (t≠0/\t<=t'):=fun e=>e.1 h2
    rw [dZ e2]
    repeat' first|refine Zz ?_|intro _
    refine reE ?_
    rfl
   ·rw [decide_eq_decide.2 (show (t≠0/\t<=t')↔t<=t' from ⟨fun e=>e.2,fun e=>⟨h2,e⟩⟩)]
    repeat' first|refine Zz ?_|intro _
    refine reE ?_
    rfl⟩
set_option maxHeartbeats 2000000 in
instance fnLate {q:Int}{s k d:Bs}{a:Wd}{f g:Bs}{h t h' t':Int}:Ans Tryz.prog GL 214 [.agg 12 [int q,str s,str k,.agg 7 [str d,widA a,str f,str g],int h,int t],int h',int t'] True (boo (lateP ⟨q,s,k,d,a,f,g,h,t⟩ h' t')):=⟨fun _=>by
 refine qE Tryz.func214 rfl Tryz.ntmps214 rfl (fun _ hs=>?_)
 repeat' first|refine Vz ?_|intro _
 refine ac_loop (α:=Nat) (fun i=>[(20,.agg 4 [.agg 2 [int h,int h'],.agg 2 [int t,int t']]),(21,int i),(8,boo false)]) (fun i=>[]) (fun i=>i<=2/\(1<=i->¬ (h≠0/\h<=h'))/\(2<=i->¬ (t≠0/\t<=t'))) (fun i=>2 - i) 0 ⟨rfl,rfl,rfl,trivial⟩ (List.nil_sublist _) ⟨by decide,fun h=>absurd h (by decide),fun h=>absurd h (by decide)⟩ ?_
 rintro i ⟨hi,f1,f2⟩
 rcases i with _|_|_|i
 ·repeat' first|refine Zz ?_|intro _
  refine al_index (ps:=[.agg 2 [int h,int h'],.agg 2 [int t,int t']]) (u:=.agg 2 [int h,int h']) 0 ?_ rfl (by decide) rfl (by intro p hp;simp at hp;rcases hp with rfl|rfl <;> rfl) rfl
  by_cases h1:h=0
  ·repeat' first|refine Zz ?_|intro _
   refine ae_round 1 ⟨rfl,rfl,rfl,trivial⟩ (List.nil_sublist _) ⟨by decide,fun _ e=>e.1 h1,fun h=>absurd h (by decide)⟩ (by decide)
  ·by_cases h2:h<=h'
   ·rw [lateP_eq,dT (show h≠0/\h<=h' from ⟨h1,h2⟩),Bool.true_or]
    repeat' first|refine Zz ?_|intro _
    refine reE ?_
    rw [dT h2]
    rfl
   ·repeat' first|refine Zz ?_|intro _
    rw [dZ h2]
    refine ae_round 1 ⟨rfl,rfl,rfl,trivial⟩ (List.nil_sublist _) ⟨by decide,fun _ e=>h2 e.2,fun h=>absurd h (by decide)⟩ (by decide)
 ·repeat' first|refine Zz ?_|intro _
  refine al_index (ps:=[.agg 2 [int h,int h'],.agg 2 [int t,int t']]) (u:=.agg 2 [int t,int t']) 1 ?_ rfl (by decide) rfl (by intro p hp;simp at hp;rcases hp with rfl|rfl <;> rfl) rfl
  by_cases h1:t=0
  ·repeat' first|refine Zz ?_|intro _
   refine ae_round 2 ⟨rfl,rfl,rfl,trivial⟩ (List.nil_sublist _) ⟨by decide,fun _=>f1 (by decide),fun _ e=>e.1 h1⟩ (by decide)
  ·by_cases h2:t<=t'
   ·rw [lateP_eq,dT (show t≠0/\t<=t' from ⟨h1,h2⟩),Bool.or_true]
    repeat' first|refine Zz ?_|intro _
    refine reE ?_
    rw [dT h2]
    rfl
   ·repeat' first|refine Zz ?_|intro _
    rw [dZ h2]
    refine ae_round 2 ⟨rfl,rfl,rfl,trivial⟩ (List.nil_sublist _) ⟨by decide,fun _=>f1 (by decide),fun _ e=>h2 e.2⟩ (by decide)
 ·have e1:=f1 (by decide)
  have e2:=f2 (by decide)
  rw [lateP_eq,dZ e1,dZ e2]
  repeat' first|refine Zz ?_|intro _
  refine reE ?_
  rfl
 ·omega⟩
theorem ackIs_no {s:Bs}(h1:s≠[43])(h2:∀ c,s=[45,c]->c=0):ackIs s=false/\ackV s=0:=by
 unfold ackIs ackV
 constructor
 ·split
  ·exact absurd rfl h1
  ·rename_i c
   rw [h2 c rfl]
   rfl
  ·rfl
 ·split
  ·rename_i c
   rw [h2 c rfl]
   rfl
  ·rfl
theorem ackIs_yes {c:UInt8}(h:c≠0):ackIs [45,c]=true/\ackV [45,c]=c.toNat:=⟨dT h,rfl⟩
set_option maxHeartbeats 2000000 in
instance fnResult {s:Bs}:Ans Tryz.prog GL 226 [str s] True (.tup [int (ackV s),boo (ackIs s)]):=⟨fun _=>by
 refine qE Tryz.func226 rfl Tryz.ntmps226 rfl (fun _ hs=>?_)
 by_cases h1:s=[43]
 ·subst h1
  repeat' first|refine Zz ?_|intro _
  refine reE ?_
  rfl
 by_cases h2:∃ b c,s=[b,c]
 ·obtain⟨b,c,rfl⟩:=h2
  have h2:([b,c]:Bs).length=2:=rfl
  have hcb:=c.toNat_lt
  have hc0:c=0↔c.toNat=0:=⟨fun e=>by rw [e];rfl,fun e=>UInt8.toNat_inj.1 e⟩
  by_cases hb:b.toNat=45
  ·obtain rfl:b=45:=UInt8.toNat_inj.1 hb
   by_cases hc:c.toNat=0
   ·obtain⟨e1,e2⟩:=ackIs_no h1 (fun d e=>by injection e with _ e;injection e with e _;rw [<- e];exact hc0.2 hc)
    rw [e1,e2]
    repeat' first|refine Yz ?_|intro _
    refine reE ?_
    rfl
   ·obtain⟨e1,e2⟩:=ackIs_yes (fun e=>hc (hc0.1 e))
    rw [e1,e2]
    repeat' first|refine Yz ?_|intro _
    refine reE ?_
    rfl
  ·obtain⟨e1,e2⟩:=ackIs_no h1 (fun d e=>absurd (by injection e with e _;rw [e];rfl) hb)
   rw [e1,e2]
   repeat' first|refine Yz ?_|intro _
   refine reE ?_
   rfl
 ·have hl:s.length≠2:=fun e=>h2 (by
   match s,e with
   | [b,c],_=>exact⟨b,c,rfl⟩)
  obtain⟨e1,e2⟩:=ackIs_no h1 (fun c e=>absurd ⟨45,c,e⟩ h2)
  rw [e1,e2]
  repeat' first|refine Zz ?_|intro _
  refine reE ?_
  rfl⟩

set_option maxHeartbeats 2000000 in
instance fnRResult {s:Bs}:Ans Tryz.prog GL 250 [str s] True (.tup [int (ackV s),boo (ackIs s)]):=⟨fun _=>by
 refine qE Tryz.func250 rfl Tryz.ntmps250 rfl (fun _ hs=>?_)
 by_cases h1:s=[43]
 ·subst h1
  repeat' first|refine Zz ?_|intro _
  refine reE ?_
  rfl
 repeat' first|refine Zz ?_|intro _
 refine ac_loop (α:=Nat) (fun i=>[(0,str s),(4,int i),(2,int 0),(3,boo false)]) (fun i=>[]) (fun i=>1<=i/\i<=256/\∀ c:UInt8,s=[45,c]->c.toNat≠0->i<=c.toNat) (fun i=>256 - i) 1 ⟨rfl,rfl,rfl,rfl,trivial⟩ (List.nil_sublist _) ⟨by decide,by decide,fun c _ h=>by omega⟩ ?_
 rintro i ⟨hi1,hi2,hall⟩
 iterate 5 refine W ?_
 refine al_nil ?_
 refine ae_thenC ?_
 refine ac_cond (fun hlt=>?_) (fun hlt=>?_)
 ·have hu:UInt8.ofNat (IntKind.u8.wrap (i:Int)).toNat=UInt8.ofNat i:=u8ofInt i
  have hn:(UInt8.ofNat i).toNat=i:=by
   rw [UInt8.toNat_ofNat']
   exact Nat.mod_eq_of_lt (by omega)
  repeat' first|refine Vz ?_|intro _
  rw [hu]
  refine ac_cond (fun h=>?_) (fun h=>?_)
  ·subst h
   obtain⟨e1,e2⟩:=ackIs_yes (c:=UInt8.ofNat i) (fun e=>by rw [e] at hn;simp at hn;omega)
   repeat' first|refine Vz ?_|intro _
   refine reE ?_
   rw [show ([45]++[UInt8.ofNat i]:Bs)=[45,UInt8.ofNat i] from rfl,e1,e2,hn]
   rfl
  ·repeat' first|refine Vz ?_|intro _
   refine ae_round (i + 1) ⟨rfl,rfl,rfl,rfl,trivial⟩ (List.nil_sublist _) ⟨by omega,by omega,fun c e hc=>?_⟩ (by omega)
   have h3:=hall c e hc
   have h4:i≠c.toNat:=fun e2=>h (by rw [e,e2];simp)
   omega
 ·obtain rfl:i=256:=by omega
  have h3:=ackIs_no h1 (fun c e=>by
   by_cases hc:c.toNat=0
   ·exact UInt8.toNat_inj.1 hc
   ·have:=hall c e hc
    have:=c.toNat_lt
    omega)
  obtain⟨e1,e2⟩:=h3
  rw [e1,e2]
  repeat' first|refine Vz ?_|intro _
  refine reE ?_
  rfl⟩

set_option maxHeartbeats 1000000 in
instance fnLParts {l:List Bs}{xs:List AV}{id:Option Value}[hx:Strs xs l]:Ans Tryz.prog GL 326 [.sl 1 xs id] (1<=l.length) (boo (l.all partB)):=⟨fun hn=>by
 have h:=hx.out
 subst h
 have hm:(l.map str).length=l.length:=llm _
 refine qE Tryz.func326 rfl Tryz.ntmps326 rfl (fun _ hs=>?_)
 refine ac_bnd 0 (fun hb=>?_)
 have hb:=maxLen_le hb
 repeat' first|refine Vz ?_|intro _
 refine ac_loop (α:=Nat) (fun i=>[(3,boo true),(6,.sl 1 (l.map str) id),(7,int (l.map str).length),(8,int i)]) (fun i=>[]) (fun i=>i<=l.length/\∀ j,(hj:j < l.length)->j < i->partB l[j]=true) (fun i=>l.length - i) 0 ⟨rfl,rfl,rfl,rfl,trivial⟩ slr ⟨Nat.zero_le _,fun _ _ h=>absurd h (by omega)⟩ ?_
 rintro i ⟨hi,hall⟩
 repeat' first|refine Vz ?_|intro _
 refine ac_cond (fun hlt=>?_) (fun hlt=>?_)
 ·have hil:i < l.length:=by omega
  repeat' first|refine Vz ?_|intro _
  cases hb:partB l[i]
  ·repeat' first|refine Vz ?_|intro _
   refine reE ?_
   have:l.all partB=false:=List.all_eq_false.2 ⟨_,List.getElem_mem hil,by rw [hb];decide⟩
   rw [this]
   rfl
  ·repeat' first|refine Vz ?_|intro _
   refine ae_round (i + 1) ⟨rfl,rfl,rfl,rfl,trivial⟩ slr ⟨hil,fun j hj h=>?_⟩ (by omega)
   by_cases hj2:j < i
   ·exact hall j hj hj2
   ·obtain rfl:j=i:=by omega
    exact hb
 ·obtain rfl:i=l.length:=by omega
  have ht:l.all partB=true:=List.all_eq_true.2 fun x hx=>by
   obtain⟨j,hj,rfl⟩:=List.getElem_of_mem hx
   exact hall j hj hj
  rw [ht]
  repeat' first|refine Vz ?_|intro _
  refine reE ?_
  rfl⟩
set_option maxHeartbeats 1000000 in
instance fnLCheck {s:Int}{o q p:Bs}:Ans Tryz.prog GL 259 [.agg 4 [int s,str o,str q,str p]] True (boo (chkE ⟨s,o,q,p⟩)):=⟨fun _=>by
 refine qE Tryz.func259 rfl Tryz.ntmps259 rfl (fun _ hs=>?_)
 by_cases h1:s=1
 ·subst h1
  repeat' first|refine Zz ?_|intro _
  rw [show ([o,q].all partB)=(partB o && partB q) by simp]
  cases p1:partB o && partB q
  ·repeat' first|refine Zz ?_|intro _
   refine reE ?_
   simp only [Bool.and_eq_false_iff] at p1
   rcases p1 with p1|p1 <;> simp [outOf,chkE,p1]
  ·repeat' first|refine Zz ?_|intro _
   refine reE ?_
   simp only [Bool.and_eq_true] at p1
   simp [outOf,chkE,p1.1,p1.2]
 by_cases h2:2<=s/\s<=4
 ·have e:chkE ⟨s,o,q,p⟩=[o,q,p].all partB:=by
   unfold chkE
   simp only [if_neg h1]
   rw [dT (show 1<=s/\s<=4 by omega)]
   simp
  rw [e]
  by_cases h3:s=2
  ·subst h3
   repeat' first|refine Zz ?_|intro _
   refine reE ?_
   rfl
  ·by_cases h4:s=3
   ·subst h4
    repeat' first|refine Zz ?_|intro _
    refine reE ?_
    rfl
   ·obtain rfl:s=4:=by omega
    repeat' first|refine Zz ?_|intro _
    refine reE ?_
    rfl
 ·have e:chkE ⟨s,o,q,p⟩=false:=by
   unfold chkE
   rw [dZ (show ¬ (1<=s/\s<=4) by omega)]
   rfl
  rw [e]
  have h3:s≠2:=by omega
  have h4:s≠3:=by omega
  have h5:s≠4:=by omega
  repeat' first|refine Zz ?_|intro _
  refine reE ?_
  rfl⟩
set_option maxHeartbeats 1000000 in
instance fnR15Check {s:Int}{o q p:Bs}:Ans Tryz.prog GL 152 [.agg 4 [int s,str o,str q,str p]] (o.length<=1000000000/\q.length<=1000000000/\p.length<=1000000000) (boo (chkE ⟨s,o,q,p⟩)):=⟨fun hp=>by
 obtain⟨l1,l2,l3⟩:=hp
 refine qE Tryz.func152 rfl Tryz.ntmps152 rfl (fun _ hs=>?_)
 by_cases h1:1<=s/\s<=4
 ·have e:chkE ⟨s,o,q,p⟩=(partB o && (partB q && if s=1 then decide (p=[]) else partB p)):=by
   unfold chkE
   rw [dT h1,Bool.true_and]
  rw [e]
  repeat' first|refine Zz ?_|intro _
  cases p1:partB o
  ·repeat' first|refine Zz ?_|intro _
   refine reE ?_
   rfl
  repeat' first|refine Zz ?_|intro _
  cases p2:partB q
  ·repeat' first|refine Zz ?_|intro _
   refine reE ?_
   rfl
  by_cases h2:s=1
  ·rw [if_pos h2]
   repeat' first|refine Zz ?_|intro _
   refine reE ?_
   rfl
  ·rw [if_neg h2]
   repeat' first|refine Zz ?_|intro _
   refine reE ?_
   rfl
 ·have e:chkE ⟨s,o,q,p⟩=false:=by
   unfold chkE
   rw [dZ h1]
   rfl
  rw [e]
  by_cases h2:s < 1
  all_goals
   repeat' first|refine Zz ?_|intro _
   refine reE ?_
   rfl⟩
instance fnLIs {s:Int}{o q p:Bs}{n:Int}:Ans Tryz.prog GL 351 [.agg 4 [int s,str o,str q,str p],int n] True (boo (isE ⟨s,o,q,p⟩ n)):=⟨fun _=>by
 refine qE Tryz.func351 rfl Tryz.ntmps351 rfl (fun _ hs=>?_)
 unfold isE
 by_cases h1:s=n
 ·rw [dT h1]
  repeat' first|refine Zz ?_|intro _
  refine reE ?_
  rfl
 ·rw [dZ h1]
  repeat' first|refine Zz ?_|intro _
  refine reE ?_
  rfl⟩
instance fnR15Is {s:Int}{o q p:Bs}{n:Int}:Ans Tryz.prog GL 320 [.agg 4 [int s,str o,str q,str p],int n] (o.length<=1000000000/\q.length<=1000000000/\p.length<=1000000000) (boo (isE ⟨s,o,q,p⟩ n)):=⟨fun hp=>by
 refine qE Tryz.func320 rfl Tryz.ntmps320 rfl (fun _ hs=>?_)
 unfold isE
 repeat' first|refine Zz ?_|intro _
 cases h2:chkE ⟨s,o,q,p⟩
 ·repeat' first|refine Zz ?_|intro _
  refine reE ?_
  rw [Bool.and_false]
  rfl
 ·repeat' first|refine Zz ?_|intro _
  refine reE ?_
  rw [Bool.and_true]
  rfl⟩
instance fnR15Meets {s:Int}{o q p:Bs}{s':Int}{o' q' p':Bs}:Ans Tryz.prog GL 321 [.agg 4 [int s,str o,str q,str p],.agg 4 [int s',str o',str q',str p']] True (boo (decide (o=q') && decide (q=o'))):=⟨fun _=>by
 refine qE Tryz.func321 rfl Tryz.ntmps321 rfl (fun _ hs=>?_)
 by_cases h1:o=q'
 ·rw [dT h1]
  repeat' first|refine Zz ?_|intro _
  rw [dT h1]
  repeat' first|refine Zz ?_|intro _
  refine reE ?_
  rfl
 ·rw [dZ h1]
  repeat' first|refine Zz ?_|intro _
  rw [dZ h1]
  repeat' first|refine Zz ?_|intro _
  refine reE ?_
  rfl⟩
end Go.Proofs.YtlmcongmglfaeaaGreatDoor
