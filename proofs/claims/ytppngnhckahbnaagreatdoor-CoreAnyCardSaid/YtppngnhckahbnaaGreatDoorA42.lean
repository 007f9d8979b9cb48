/- ends of connections and channels, walked: hand-shakes; bytes -/
import Derived.Test.YtppngnhckahbnaaGreatDoorA32
import Derived.Test.YtppngnhckahbnaaGreatDoorA41
namespace Go.Proofs.YtppngnhckahbnaaGreatDoor
open Go Go.RowKit Tw Av
instance {x:Pkt}:LenLe (pktB x) 150994971:=by unfold pktB;infer_instance
instance {n:Nat}:LenLe (beB n) 32:=⟨Nat.le_of_eq (beB_len n)⟩
instance fnPkBytes {q:Int}{s k d:Bs}{a:Wd}{f g:Bs}{h t:Int}:Ans Tryz.prog GL 317 [.agg 12 [int q,str s,str k,.agg 7 [str d,widA a,str f,str g],int h,int t]] (q≤9223372036854775807∧h≤9223372036854775807∧t≤9223372036854775807) (str (pktB ⟨q,s,k,d,a,f,g,h,t⟩)):=⟨fun hp=>by
 obtain⟨h1,h2,h3⟩:=hp
 refine spec_enter Tryz.func317 rfl Tryz.ntmps317 rfl (fun _ hs=>?_)
 repeat' first|refine Vz ?_|intro _
 refine reE ?_
 rfl⟩
instance fnRPkBytes {q:Int}{s k d:Bs}{a:Wd}{f g:Bs}{h t:Int}:Ans Tryz.prog GL 332 [.agg 12 [int q,str s,str k,.agg 7 [str d,widA a,str f,str g],int h,int t]] (q≤9223372036854775807∧h≤9223372036854775807∧t≤9223372036854775807) (str (pktB ⟨q,s,k,d,a,f,g,h,t⟩)):=⟨fun hp=>by
 obtain⟨h1,h2,h3⟩:=hp
 refine spec_enter Tryz.func332 rfl Tryz.ntmps332 rfl (fun _ hs=>?_)
 repeat' first|refine Vz ?_|intro _
 refine reE ?_
 rfl⟩
theorem ofH_two (a b:Bs):ofH [a,b]=shaH (a++b):=by
 unfold ofH
 simp
instance fnCommit {q:Int}{s k d:Bs}{a:Wd}{f g:Bs}{h t:Int}:Ans Tryz.prog GL 225 [.agg 12 [int q,str s,str k,.agg 7 [str d,widA a,str f,str g],int h,int t]] (q≤9223372036854775807∧h≤9223372036854775807∧t≤9223372036854775807) (str (comP ⟨q,s,k,d,a,f,g,h,t⟩)):=⟨fun hp=>by
 refine spec_enter Tryz.func225 rfl Tryz.ntmps225 rfl (fun _ hs=>?_)
 repeat' first|refine Vz ?_|intro _
 refine reE ?_
 rw [ofH_two]
 rfl⟩
instance fnRCommit {q:Int}{s k d:Bs}{a:Wd}{f g:Bs}{h t:Int}:Ans Tryz.prog GL 255 [.agg 12 [int q,str s,str k,.agg 7 [str d,widA a,str f,str g],int h,int t]] (q≤9223372036854775807∧h≤9223372036854775807∧t≤9223372036854775807) (str (comP ⟨q,s,k,d,a,f,g,h,t⟩)):=⟨fun hp=>by
 refine spec_enter Tryz.func255 rfl Tryz.ntmps255 rfl (fun _ hs=>?_)
 repeat' first|refine Vz ?_|intro _
 refine reE ?_
 rfl⟩
instance fnReceipt {a:Bs}:Ans Tryz.prog GL 233 [str a] (a.length≤1000000000) (str (rcpB a)):=⟨fun hl=>by
 haveI:LenLe a 1000000000:=⟨hl⟩
 refine spec_enter Tryz.func233 rfl Tryz.ntmps233 rfl (fun _ hs=>?_)
 repeat' first|refine Vz ?_|intro _
 refine reE ?_
 rw [ofH_two]
 rfl⟩
instance fnRReceipt {a:Bs}:Ans Tryz.prog GL 257 [str a] (a.length≤1000000000) (str (rcpB a)):=⟨fun hl=>by
 haveI:LenLe a 1000000000:=⟨hl⟩
 refine spec_enter Tryz.func257 rfl Tryz.ntmps257 rfl (fun _ hs=>?_)
 repeat' first|refine Vz ?_|intro _
 refine reE ?_
 rfl⟩
instance fnDone:Ans Tryz.prog GL 230 [] True (str [43]):=⟨fun _=>by
 refine spec_enter Tryz.func230 rfl Tryz.ntmps230 rfl (fun _ hs=>?_)
 repeat' first|refine Vz ?_|intro _
 refine reE ?_
 rfl⟩
instance fnFailed {e:Int}:Ans Tryz.prog GL 232 [int e] (0≤e∧e < 256) (str (failB e)):=⟨fun he=>by
 obtain⟨n,rfl⟩:=Int.eq_ofNat_of_zero_le he.1
 refine spec_enter Tryz.func232 rfl Tryz.ntmps232 rfl (fun _ hs=>?_)
 repeat' first|refine Vz ?_|intro _
 refine reE ?_
 rw [u8ofInt]
 rfl⟩
instance fnRFailed {e:Int}:Ans Tryz.prog GL 134 [int e] (0≤e∧e < 256) (str (failB e)):=⟨fun he=>by
 obtain⟨n,rfl⟩:=Int.eq_ofNat_of_zero_le he.1
 refine spec_enter Tryz.func134 rfl Tryz.ntmps134 rfl (fun _ hs=>?_)
 repeat' first|refine Vz ?_|intro _
 refine reE ?_
 rw [u8ofInt]
 rfl⟩
theorem lateP_eq (x:Pkt)(h t:Int):lateP x h t=(decide (x.h≠0∧x.h≤h) || decide (x.t≠0∧x.t≤t)):=by
 unfold lateP
 rw [Bool.decide_or]
set_option maxHeartbeats 2000000 in
instance fnRLate {q:Int}{s k d:Bs}{a:Wd}{f g:Bs}{h t h' t':Int}:Ans Tryz.prog GL 253 [.agg 12 [int q,str s,str k,.agg 7 [str d,widA a,str f,str g],int h,int t],int h',int t'] True (boo (lateP ⟨q,s,k,d,a,f,g,h,t⟩ h' t')):=⟨fun _=>by
 refine spec_enter Tryz.func253 rfl Tryz.ntmps253 rfl (fun _ hs=>?_)
 by_cases h1:h=0
 ·have e1:¬ (h≠0∧h≤h'):=fun e=>e.1 h1
  rw [lateP_eq,decide_eq_false e1,Bool.false_or]
  by_cases h2:t=0
  ·have e2:¬ (t≠0∧t≤t'):=fun e=>e.1 h2
   rw [decide_eq_false e2]
   repeat' first|refine Zz ?_|intro _
   refine reE ?_
   rfl
  ·rw [decide_eq_decide.2 (show (t≠0∧t≤t')↔t≤t' from ⟨fun e=>e.2,fun e=>⟨h2,e⟩⟩)]
   repeat' first|refine Zz ?_|intro _
   refine reE ?_
   rfl
 ·by_cases h3:h≤h'
  ·rw [lateP_eq,decide_eq_true (show h≠0∧h≤h' from ⟨h1,h3⟩),Bool.true_or]
   repeat' first|refine Zz ?_|intro _
   refine reE ?_
   rfl
  ·rw [lateP_eq,decide_eq_false (show ¬ (h≠0∧h≤h') from fun e=>h3 e.2),Bool.false_or]
   by_cases h2:t=0
   ·have e2:¬ (t≠0∧t≤t'):=fun e=>e.1 h2
    rw [decide_eq_false e2]
    repeat' first|refine Zz ?_|intro _
    refine reE ?_
    rfl
   ·rw [decide_eq_decide.2 (show (t≠0∧t≤t')↔t≤t' from ⟨fun e=>e.2,fun e=>⟨h2,e⟩⟩)]
    repeat' first|refine Zz ?_|intro _
    refine reE ?_
    rfl⟩
set_option maxHeartbeats 2000000 in
instance fnLate {q:Int}{s k d:Bs}{a:Wd}{f g:Bs}{h t h' t':Int}:Ans Tryz.prog GL 222 [.agg 12 [int q,str s,str k,.agg 7 [str d,widA a,str f,str g],int h,int t],int h',int t'] True (boo (lateP ⟨q,s,k,d,a,f,g,h,t⟩ h' t')):=⟨fun _=>by
 refine spec_enter Tryz.func222 rfl Tryz.ntmps222 rfl (fun _ hs=>?_)
 repeat' first|refine Vz ?_|intro _
 refine ac_loop (α:=Nat) (fun i=>[(20,.agg 4 [.agg 2 [int h,int h'],.agg 2 [int t,int t']]),(21,int i),(8,boo false)]) (fun i=>[]) (fun i=>i≤2∧(1≤i→¬ (h≠0∧h≤h'))∧(2≤i→¬ (t≠0∧t≤t'))) (fun i=>2 - i) 0 ⟨rfl,rfl,rfl,trivial⟩ (List.nil_sublist _) ⟨by decide,fun h=>absurd h (by decide),fun h=>absurd h (by decide)⟩ ?_
 rintro i ⟨hi,f1,f2⟩
 rcases i with _|_|_|i
 ·repeat' first|refine Zz ?_|intro _
  refine al_index (ps:=[.agg 2 [int h,int h'],.agg 2 [int t,int t']]) (u:=.agg 2 [int h,int h']) 0 ?_ rfl (by decide) rfl (by intro p hp;simp at hp;rcases hp with rfl|rfl <;> rfl) rfl
  by_cases h1:h=0
  ·repeat' first|refine Zz ?_|intro _
   refine ae_round 1 ⟨rfl,rfl,rfl,trivial⟩ (List.nil_sublist _) ⟨by decide,fun _ e=>e.1 h1,fun h=>absurd h (by decide)⟩ (by decide)
  ·by_cases h2:h≤h'
   ·rw [lateP_eq,decide_eq_true (show h≠0∧h≤h' from ⟨h1,h2⟩),Bool.true_or]
    repeat' first|refine Zz ?_|intro _
    refine reE ?_
    rw [decide_eq_true h2]
    rfl
   ·repeat' first|refine Zz ?_|intro _
    rw [decide_eq_false h2]
    refine ae_round 1 ⟨rfl,rfl,rfl,trivial⟩ (List.nil_sublist _) ⟨by decide,fun _ e=>h2 e.2,fun h=>absurd h (by decide)⟩ (by decide)
 ·repeat' first|refine Zz ?_|intro _
  refine al_index (ps:=[.agg 2 [int h,int h'],.agg 2 [int t,int t']]) (u:=.agg 2 [int t,int t']) 1 ?_ rfl (by decide) rfl (by intro p hp;simp at hp;rcases hp with rfl|rfl <;> rfl) rfl
  by_cases h1:t=0
  ·repeat' first|refine Zz ?_|intro _
   refine ae_round 2 ⟨rfl,rfl,rfl,trivial⟩ (List.nil_sublist _) ⟨by decide,fun _=>f1 (by decide),fun _ e=>e.1 h1⟩ (by decide)
  ·by_cases h2:t≤t'
   ·rw [lateP_eq,decide_eq_true (show t≠0∧t≤t' from ⟨h1,h2⟩),Bool.or_true]
    repeat' first|refine Zz ?_|intro _
    refine reE ?_
    rw [decide_eq_true h2]
    rfl
   ·repeat' first|refine Zz ?_|intro _
    rw [decide_eq_false h2]
    refine ae_round 2 ⟨rfl,rfl,rfl,trivial⟩ (List.nil_sublist _) ⟨by decide,fun _=>f1 (by decide),fun _ e=>h2 e.2⟩ (by decide)
 ·have e1:=f1 (by decide)
  have e2:=f2 (by decide)
  rw [lateP_eq,decide_eq_false e1,decide_eq_false e2]
  repeat' first|refine Zz ?_|intro _
  refine reE ?_
  rfl
 ·omega⟩
theorem ackIs_no {s:Bs}(h1:s≠[43])(h2:∀ c,s=[45,c]→c=0):ackIs s=false∧ackV s=0:=by
 unfold ackIs ackV
 constructor
 ·split
  ·exact absurd rfl h1
  ·rename_i c
   rw [h2 c rfl]
   rfl
  ·rfl
 ·split
  ·rename_i c
   rw [h2 c rfl]
   rfl
  ·rfl
theorem ackIs_yes {c:UInt8}(h:c≠0):ackIs [45,c]=true∧ackV [45,c]=c.toNat:=⟨decide_eq_true h,rfl⟩
set_option maxHeartbeats 2000000 in
instance fnResult {s:Bs}:Ans Tryz.prog GL 234 [str s] True (.tup [int (ackV s),boo (ackIs s)]):=⟨fun _=>by
 refine spec_enter Tryz.func234 rfl Tryz.ntmps234 rfl (fun _ hs=>?_)
 by_cases h1:s=[43]
 ·subst h1
  repeat' first|refine Zz ?_|intro _
  refine reE ?_
  rfl
 by_cases h2:∃ b c,s=[b,c]
 ·obtain⟨b,c,rfl⟩:=h2
  have h2:([b,c]:Bs).length=2:=rfl
  have hcb:=c.toNat_lt
  have hc0:c=0↔c.toNat=0:=⟨fun e=>by rw [e];rfl,fun e=>UInt8.toNat_inj.1 e⟩
  by_cases hb:b.toNat=45
  ·obtain rfl:b=45:=UInt8.toNat_inj.1 hb
   by_cases hc:c.toNat=0
   ·obtain⟨e1,e2⟩:=ackIs_no h1 (fun d e=>by injection e with _ e;injection e with e _;rw [← e];exact hc0.2 hc)
    rw [e1,e2]
    repeat' first|refine Yz ?_|intro _
    refine reE ?_
    rfl
   ·obtain⟨e1,e2⟩:=ackIs_yes (fun e=>hc (hc0.1 e))
    rw [e1,e2]
    repeat' first|refine Yz ?_|intro _
    refine reE ?_
    rfl
  ·obtain⟨e1,e2⟩:=ackIs_no h1 (fun d e=>absurd (by injection e with e _;rw [e];rfl) hb)
   rw [e1,e2]
   repeat' first|refine Yz ?_|intro _
   refine reE ?_
   rfl
 ·have hl:s.length≠2:=fun e=>h2 (by
   match s,e with
   | [b,c],_=>exact⟨b,c,rfl⟩)
  obtain⟨e1,e2⟩:=ackIs_no h1 (fun c e=>absurd ⟨45,c,e⟩ h2)
  rw [e1,e2]
  repeat' first|refine Zz ?_|intro _
  refine reE ?_
  rfl⟩
end Go.Proofs.YtppngnhckahbnaaGreatDoor

namespace Go.Proofs.YtppngnhckahbnaaGreatDoor
open Go Go.RowKit Tw Av
set_option maxHeartbeats 2000000 in
instance fnRResult {s:Bs}:Ans Tryz.prog GL 258 [str s] True (.tup [int (ackV s),boo (ackIs s)]):=⟨fun _=>by
 refine spec_enter Tryz.func258 rfl Tryz.ntmps258 rfl (fun _ hs=>?_)
 by_cases h1:s=[43]
 ·subst h1
  repeat' first|refine Zz ?_|intro _
  refine reE ?_
  rfl
 repeat' first|refine Zz ?_|intro _
 refine ac_loop (α:=Nat) (fun i=>[(0,str s),(4,int i),(2,int 0),(3,boo false)]) (fun i=>[]) (fun i=>1≤i∧i≤256∧∀ c:UInt8,s=[45,c]→c.toNat≠0→i≤c.toNat) (fun i=>256 - i) 1 ⟨rfl,rfl,rfl,rfl,trivial⟩ (List.nil_sublist _) ⟨by decide,by decide,fun c _ h=>by omega⟩ ?_
 rintro i ⟨hi1,hi2,hall⟩
 iterate 5 refine W ?_
 refine al_nil ?_
 refine ae_thenC ?_
 refine ac_cond (fun hlt=>?_) (fun hlt=>?_)
 ·have hu:UInt8.ofNat (IntKind.u8.wrap (i:Int)).toNat=UInt8.ofNat i:=u8ofInt i
  have hn:(UInt8.ofNat i).toNat=i:=by
   rw [UInt8.toNat_ofNat']
   exact Nat.mod_eq_of_lt (by omega)
  repeat' first|refine Vz ?_|intro _
  rw [hu]
  refine ac_cond (fun h=>?_) (fun h=>?_)
  ·subst h
   obtain⟨e1,e2⟩:=ackIs_yes (c:=UInt8.ofNat i) (fun e=>by rw [e] at hn;simp at hn;omega)
   repeat' first|refine Vz ?_|intro _
   refine reE ?_
   rw [show ([45]++[UInt8.ofNat i]:Bs)=[45,UInt8.ofNat i] from rfl,e1,e2,hn]
   rfl
  ·repeat' first|refine Vz ?_|intro _
   refine ae_round (i + 1) ⟨rfl,rfl,rfl,rfl,trivial⟩ (List.nil_sublist _) ⟨by omega,by omega,fun c e hc=>?_⟩ (by omega)
   have h3:=hall c e hc
   have h4:i≠c.toNat:=fun e2=>h (by rw [e,e2];simp)
   omega
 ·obtain rfl:i=256:=by omega
  have h3:=ackIs_no h1 (fun c e=>by
   by_cases hc:c.toNat=0
   ·exact UInt8.toNat_inj.1 hc
   ·have:=hall c e hc
    have:=c.toNat_lt
    omega)
  obtain⟨e1,e2⟩:=h3
  rw [e1,e2]
  repeat' first|refine Vz ?_|intro _
  refine reE ?_
  rfl⟩
end Go.Proofs.YtppngnhckahbnaaGreatDoor

namespace Go.Proofs.YtppngnhckahbnaaGreatDoor
open Go Go.RowKit Tw Av
set_option maxHeartbeats 1000000 in
instance fnLParts {l:List Bs}{xs:List AV}{id:Option Value}[hx:Strs xs l]:Ans Tryz.prog GL 334 [.sl 1 xs id] (1≤l.length) (boo (l.all partB)):=⟨fun hn=>by
 have h:=hx.out
 subst h
 have hm:(l.map str).length=l.length:=List.length_map _
 refine spec_enter Tryz.func334 rfl Tryz.ntmps334 rfl (fun _ hs=>?_)
 refine ac_bnd 0 (fun hb=>?_)
 have hb:=maxLen_le hb
 repeat' first|refine Vz ?_|intro _
 refine ac_loop (α:=Nat) (fun i=>[(3,boo true),(6,.sl 1 (l.map str) id),(7,int (l.map str).length),(8,int i)]) (fun i=>[]) (fun i=>i≤l.length∧∀ j,(hj:j < l.length)→j < i→partB l[j]=true) (fun i=>l.length - i) 0 ⟨rfl,rfl,rfl,rfl,trivial⟩ (List.Sublist.refl _) ⟨Nat.zero_le _,fun _ _ h=>absurd h (by omega)⟩ ?_
 rintro i ⟨hi,hall⟩
 repeat' first|refine Vz ?_|intro _
 refine ac_cond (fun hlt=>?_) (fun hlt=>?_)
 ·have hil:i < l.length:=by omega
  repeat' first|refine Vz ?_|intro _
  cases hb:partB l[i]
  ·repeat' first|refine Vz ?_|intro _
   refine reE ?_
   have:l.all partB=false:=List.all_eq_false.2 ⟨_,List.getElem_mem hil,by rw [hb];decide⟩
   rw [this]
   rfl
  ·repeat' first|refine Vz ?_|intro _
   refine ae_round (i + 1) ⟨rfl,rfl,rfl,rfl,trivial⟩ (List.Sublist.refl _) ⟨hil,fun j hj h=>?_⟩ (by omega)
   by_cases hj2:j < i
   ·exact hall j hj hj2
   ·obtain rfl:j=i:=by omega
    exact hb
 ·obtain rfl:i=l.length:=by omega
  have ht:l.all partB=true:=List.all_eq_true.2 fun x hx=>by
   obtain⟨j,hj,rfl⟩:=List.getElem_of_mem hx
   exact hall j hj hj
  rw [ht]
  repeat' first|refine Vz ?_|intro _
  refine reE ?_
  rfl⟩
set_option maxHeartbeats 1000000 in
instance fnLCheck {s:Int}{o q p:Bs}:Ans Tryz.prog GL 267 [.agg 4 [int s,str o,str q,str p]] True (boo (chkE ⟨s,o,q,p⟩)):=⟨fun _=>by
 refine spec_enter Tryz.func267 rfl Tryz.ntmps267 rfl (fun _ hs=>?_)
 by_cases h1:s=1
 ·subst h1
  repeat' first|refine Zz ?_|intro _
  rw [show ([o,q].all partB)=(partB o && partB q) by simp]
  cases p1:partB o && partB q
  ·repeat' first|refine Zz ?_|intro _
   refine reE ?_
   simp only [Bool.and_eq_false_iff] at p1
   rcases p1 with p1|p1 <;> simp [outOf,chkE,p1]
  ·repeat' first|refine Zz ?_|intro _
   refine reE ?_
   simp only [Bool.and_eq_true] at p1
   simp [outOf,chkE,p1.1,p1.2]
 by_cases h2:2≤s∧s≤4
 ·have e:chkE ⟨s,o,q,p⟩=[o,q,p].all partB:=by
   unfold chkE
   simp only [if_neg h1]
   rw [decide_eq_true (show 1≤s∧s≤4 by omega)]
   simp
  rw [e]
  by_cases h3:s=2
  ·subst h3
   repeat' first|refine Zz ?_|intro _
   refine reE ?_
   rfl
  ·by_cases h4:s=3
   ·subst h4
    repeat' first|refine Zz ?_|intro _
    refine reE ?_
    rfl
   ·obtain rfl:s=4:=by omega
    repeat' first|refine Zz ?_|intro _
    refine reE ?_
    rfl
 ·have e:chkE ⟨s,o,q,p⟩=false:=by
   unfold chkE
   rw [decide_eq_false (show ¬ (1≤s∧s≤4) by omega)]
   rfl
  rw [e]
  have h3:s≠2:=by omega
  have h4:s≠3:=by omega
  have h5:s≠4:=by omega
  repeat' first|refine Zz ?_|intro _
  refine reE ?_
  rfl⟩
set_option maxHeartbeats 1000000 in
instance fnR15Check {s:Int}{o q p:Bs}:Ans Tryz.prog GL 165 [.agg 4 [int s,str o,str q,str p]] (o.length≤1000000000∧q.length≤1000000000∧p.length≤1000000000) (boo (chkE ⟨s,o,q,p⟩)):=⟨fun hp=>by
 obtain⟨l1,l2,l3⟩:=hp
 refine spec_enter Tryz.func165 rfl Tryz.ntmps165 rfl (fun _ hs=>?_)
 by_cases h1:1≤s∧s≤4
 ·have e:chkE ⟨s,o,q,p⟩=(partB o && (partB q && if s=1 then decide (p=[]) else partB p)):=by
   unfold chkE
   rw [decide_eq_true h1,Bool.true_and]
  rw [e]
  repeat' first|refine Zz ?_|intro _
  cases p1:partB o
  ·repeat' first|refine Zz ?_|intro _
   refine reE ?_
   rfl
  repeat' first|refine Zz ?_|intro _
  cases p2:partB q
  ·repeat' first|refine Zz ?_|intro _
   refine reE ?_
   rfl
  by_cases h2:s=1
  ·rw [if_pos h2]
   repeat' first|refine Zz ?_|intro _
   refine reE ?_
   rfl
  ·rw [if_neg h2]
   repeat' first|refine Zz ?_|intro _
   refine reE ?_
   rfl
 ·have e:chkE ⟨s,o,q,p⟩=false:=by
   unfold chkE
   rw [decide_eq_false h1]
   rfl
  rw [e]
  by_cases h2:s < 1
  all_goals
   repeat' first|refine Zz ?_|intro _
   refine reE ?_
   rfl⟩
instance fnLIs {s:Int}{o q p:Bs}{n:Int}:Ans Tryz.prog GL 359 [.agg 4 [int s,str o,str q,str p],int n] True (boo (isE ⟨s,o,q,p⟩ n)):=⟨fun _=>by
 refine spec_enter Tryz.func359 rfl Tryz.ntmps359 rfl (fun _ hs=>?_)
 unfold isE
 by_cases h1:s=n
 ·rw [decide_eq_true h1]
  repeat' first|refine Zz ?_|intro _
  refine reE ?_
  rfl
 ·rw [decide_eq_false h1]
  repeat' first|refine Zz ?_|intro _
  refine reE ?_
  rfl⟩
instance fnR15Is {s:Int}{o q p:Bs}{n:Int}:Ans Tryz.prog GL 328 [.agg 4 [int s,str o,str q,str p],int n] (o.length≤1000000000∧q.length≤1000000000∧p.length≤1000000000) (boo (isE ⟨s,o,q,p⟩ n)):=⟨fun hp=>by
 refine spec_enter Tryz.func328 rfl Tryz.ntmps328 rfl (fun _ hs=>?_)
 unfold isE
 repeat' first|refine Zz ?_|intro _
 cases h2:chkE ⟨s,o,q,p⟩
 ·repeat' first|refine Zz ?_|intro _
  refine reE ?_
  rw [Bool.and_false]
  rfl
 ·repeat' first|refine Zz ?_|intro _
  refine reE ?_
  rw [Bool.and_true]
  rfl⟩
instance fnR15Meets {s:Int}{o q p:Bs}{s':Int}{o' q' p':Bs}:Ans Tryz.prog GL 329 [.agg 4 [int s,str o,str q,str p],.agg 4 [int s',str o',str q',str p']] True (boo (decide (o=q') && decide (q=o'))):=⟨fun _=>by
 refine spec_enter Tryz.func329 rfl Tryz.ntmps329 rfl (fun _ hs=>?_)
 by_cases h1:o=q'
 ·rw [decide_eq_true h1]
  repeat' first|refine Zz ?_|intro _
  rw [decide_eq_true h1]
  repeat' first|refine Zz ?_|intro _
  refine reE ?_
  rfl
 ·rw [decide_eq_false h1]
  repeat' first|refine Zz ?_|intro _
  rw [decide_eq_false h1]
  repeat' first|refine Zz ?_|intro _
  refine reE ?_
  rfl⟩
end Go.Proofs.YtppngnhckahbnaaGreatDoor

namespace Go.Proofs.YtppngnhckahbnaaGreatDoor
open Go Go.RowKit Tw Av
theorem all2 (a b:Bs):[a,b].all partB=(partB a && partB b):=by simp
theorem fnMeans {s:Int}{o q p:Bs}{s':Int}{o' q' p' i:Bs}{gt go gi:Nat}{Ti:TypeId}:Av.Spec Tryz.prog GL 381 [ptr gt,ptr go,ptr gi] [.var gt 84 (.agg 4 [int s',str o',str q',str p']),.var go 84 (.agg 4 [int s,str o,str q,str p]),.var gi Ti (str i)]
  fun u m=>u=boo (meanE ⟨s,o,q,p⟩ ⟨s',o',q',p'⟩ i)∧m=[.var gt 84 (.agg 4 [int s',str o',str q',str p']),.var go 84 (.agg 4 [int s,str o,str q,str p]),.var gi Ti (str i)]:=by
 refine spec_enter Tryz.func381 rfl Tryz.ntmps381 rfl (fun _ hs=>?_)
 unfold meanE
 by_cases h1:o'=q
 ·by_cases h2:q'=o
  ·repeat' first|refine Zz ?_|intro _
   refine reK _ ⟨?_,rfl⟩ (List.Sublist.refl _)
   rw [decide_eq_decide.2 (show (o'=q∧q'=o∧p'=i)↔p'=i from ⟨fun e=>e.2.2,fun e=>⟨h1,h2,e⟩⟩)]
   rfl
  ·repeat' first|refine Zz ?_|intro _
   refine reK _ ⟨?_,rfl⟩ (List.Sublist.refl _)
   rw [decide_eq_false (show ¬ (o'=q∧q'=o∧p'=i) from fun e=>h2 e.2.1)]
   rfl
 ·repeat' first|refine Zz ?_|intro _
  refine reK _ ⟨?_,rfl⟩ (List.Sublist.refl _)
  rw [decide_eq_false (show ¬ (o'=q∧q'=o∧p'=i) from fun e=>h1 e.1)]
  rfl
set_option maxHeartbeats 2000000 in
instance fnLOpens {s:Int}{o q p:Bs}{s':Int}{o' q' p' i r:Bs}{a b:Int}:Ans Tryz.prog GL 360 [.agg 4 [int s,str o,str q,str p],int a,str i,str r,.agg 4 [int s',str o',str q',str p'],int b] True
  (.tup [endA (openE ⟨s,o,q,p⟩ a i r ⟨s',o',q',p'⟩ b).1,int (openE ⟨s,o,q,p⟩ a i r ⟨s',o',q',p'⟩ b).2]):=⟨fun _=>by
 refine spec_enter Tryz.func360 rfl Tryz.ntmps360 rfl (fun _ hs=>?_)
 have hno:(isE ⟨s,o,q,p⟩ a=false∨isE ⟨s',o',q',p'⟩ b=false∨meanE ⟨s,o,q,p⟩ ⟨s',o',q',p'⟩ i=false)→openE ⟨s,o,q,p⟩ a i r ⟨s',o',q',p'⟩ b=(zeroE,13):=fun h=>by
  unfold openE
  rw [if_neg]
  rintro⟨e1,e2,e3⟩
  rcases h with h|h|h
  ·rw [h] at e1;cases e1
  ·rw [h] at e2;cases e2
  ·rw [h] at e3;cases e3
 repeat' first|refine Zz ?_|intro _
 rename_i g6 g8 g10 g12
 refine al_makeFunc (vs:=[.pointer (some ⟨g10,0,none⟩),.pointer (some ⟨g6,0,none⟩),.pointer (some ⟨g8,0,none⟩)]) ?_
 repeat' first|refine Zz ?_|intro _
 cases h1:isE ⟨s,o,q,p⟩ a
 ·rw [hno (.inl h1)]
  repeat' first|refine Zz ?_|intro _
  refine reE ?_
  rfl
 repeat' first|refine Zz ?_|intro _
 cases h2:isE ⟨s',o',q',p'⟩ b
 ·rw [hno (.inr (.inl h2))]
  repeat' first|refine Zz ?_|intro _
  refine reE ?_
  rfl
 repeat' first|refine Zz ?_|intro _
 refine al_callV (args:=[]) (cs:=[.pointer (some ⟨g10,0,none⟩),.pointer (some ⟨g6,0,none⟩),.pointer (some ⟨g8,0,none⟩)]) [.var g10 84 (.agg 4 [int s',str o',str q',str p']),.var g6 84 (.agg 4 [int s,str o,str q,str p]),.var g8 9 (str i)] [.var g12 84 (.agg 4 [int 0,str [],str [],str []])] (by rw [hs];exact fnMeans) (fun u m1 hh=>?_) ?_
 rotate_left
 ·exact (List.perm_append_comm (l₁:=[_]) (l₂:=[_,_,_])).trans (List.Perm.append_right [_] (List.Perm.cons _ (List.Perm.swap _ _ _)))
 obtain⟨rfl,rfl⟩:=hh
 cases h3:meanE ⟨s,o,q,p⟩ ⟨s',o',q',p'⟩ i
 ·rw [hno (.inr (.inr h3))]
  repeat' first|refine Zz ?_|intro _
  refine reE ?_
  rfl
 have hy:openE ⟨s,o,q,p⟩ a i r ⟨s',o',q',p'⟩ b=(⟨3,o,q,r⟩,0):=by
  unfold openE
  rw [if_pos ⟨h1,h2,h3⟩]
 rw [hy]
 repeat' first|refine Zz ?_|intro _
 refine reE ?_
 rfl⟩
instance fnLAck {s:Int}{o q p:Bs}{s':Int}{o' q' p' i r:Bs}:Ans Tryz.prog GL 306 [.agg 4 [int s,str o,str q,str p],str i,str r,.agg 4 [int s',str o',str q',str p']] True
  (.tup [endA (ackE ⟨s,o,q,p⟩ i r ⟨s',o',q',p'⟩).1,int (ackE ⟨s,o,q,p⟩ i r ⟨s',o',q',p'⟩).2]):=⟨fun _=>by
 have h2:1≤[i,r].length:=Nat.le_add_left 1 1
 refine spec_enter Tryz.func306 rfl Tryz.ntmps306 rfl (fun _ hs=>?_)
 repeat' first|refine Zz ?_|intro _
 rw [all2]
 unfold ackE
 cases h1:partB i && partB r
 ·have e:partB i=false∨partB r=false:=Bool.and_eq_false_iff.1 h1
  rw [if_pos e]
  repeat' first|refine Zz ?_|intro _
  refine reE ?_
  rfl
 ·have e:¬ (partB i=false∨partB r=false):=by
   simp only [Bool.and_eq_true] at h1
   rw [h1.1,h1.2]
   decide
  rw [if_neg e]
  repeat' first|refine Zz ?_|intro _
  refine reE ?_
  rfl⟩
instance fnLConfirm {s:Int}{o q p:Bs}{s':Int}{o' q' p' i:Bs}:Ans Tryz.prog GL 305 [.agg 4 [int s,str o,str q,str p],str i,.agg 4 [int s',str o',str q',str p']] True
  (.tup [endA (cnfE ⟨s,o,q,p⟩ i ⟨s',o',q',p'⟩).1,int (cnfE ⟨s,o,q,p⟩ i ⟨s',o',q',p'⟩).2]):=⟨fun _=>by
 refine spec_enter Tryz.func305 rfl Tryz.ntmps305 rfl (fun _ hs=>?_)
 repeat' first|refine Zz ?_|intro _
 refine reE ?_
 rfl⟩
instance fnLInit {o q:Bs}:Ans Tryz.prog GL 302 [str o,str q] True (.tup [endA (initE o q).1,int (initE o q).2]):=⟨fun _=>by
 have h2:1≤[o,q].length:=Nat.le_add_left 1 1
 refine spec_enter Tryz.func302 rfl Tryz.ntmps302 rfl (fun _ hs=>?_)
 repeat' first|refine Zz ?_|intro _
 rw [all2]
 unfold initE
 cases h1:partB o && partB q
 ·have e:¬ (partB o=true∧partB q=true):=by
   rw [← Bool.and_eq_true,h1]
   decide
  rw [if_neg e]
  repeat' first|refine Zz ?_|intro _
  refine reE ?_
  rfl
 ·have e:partB o=true∧partB q=true:=by
   rw [← Bool.and_eq_true,h1]
  rw [if_pos e]
  repeat' first|refine Zz ?_|intro _
  refine reE ?_
  rfl⟩
instance fnLTry {o p:Bs}{s':Int}{o' q' p':Bs}:Ans Tryz.prog GL 304 [str o,str p,.agg 4 [int s',str o',str q',str p']] True (.tup [endA (tryE o p ⟨s',o',q',p'⟩).1,int (tryE o p ⟨s',o',q',p'⟩).2]):=⟨fun _=>by
 have h2:1≤[o,p].length:=Nat.le_add_left 1 1
 refine spec_enter Tryz.func304 rfl Tryz.ntmps304 rfl (fun _ hs=>?_)
 repeat' first|refine Zz ?_|intro _
 rw [all2]
 unfold tryE
 cases h1:partB o && partB p
 ·have e:partB o=false∨partB p=false:=Bool.and_eq_false_iff.1 h1
  rw [if_pos e]
  repeat' first|refine Zz ?_|intro _
  refine reE ?_
  rfl
 ·have e:¬ (partB o=false∨partB p=false):=by
   simp only [Bool.and_eq_true] at h1
   rw [h1.1,h1.2]
   decide
  rw [if_neg e]
  repeat' first|refine Zz ?_|intro _
  cases h3:isE ⟨s',o',q',p'⟩ 1
  ·rw [if_pos (.inl rfl)]
   repeat' first|refine Zz ?_|intro _
   refine reE ?_
   rfl
  ·by_cases h4:q'=o
   ·rw [if_neg (by rintro (h|h);exact absurd h (by decide);exact h h4)]
    repeat' first|refine Zz ?_|intro _
    rw [decide_eq_false (not_not_intro h4)]
    repeat' first|refine Zz ?_|intro _
    refine reE ?_
    rfl
   ·rw [if_pos (.inr h4)]
    repeat' first|refine Zz ?_|intro _
    rw [decide_eq_true (show q'≠o from h4)]
    repeat' first|refine Zz ?_|intro _
    refine reE ?_
    rfl⟩
instance fnR15Init {o q:Bs}:Ans Tryz.prog GL 247 [str o,str q] (o.length≤1000000000∧q.length≤1000000000) (.tup [endA (initE o q).1,int (initE o q).2]):=⟨fun hp=>by
 obtain⟨l1,l2⟩:=hp
 have l3:([]:Bs).length≤1000000000:=by decide
 refine spec_enter Tryz.func247 rfl Tryz.ntmps247 rfl (fun _ hs=>?_)
 have e:chkE ⟨1,o,q,[]⟩=(partB o && partB q):=by
  unfold chkE
  simp
 repeat' first|refine Zz ?_|intro _
 rw [e]
 unfold initE
 cases h1:partB o && partB q
 ·have e:¬ (partB o=true∧partB q=true):=by
   rw [← Bool.and_eq_true,h1]
   decide
  rw [if_neg e]
  repeat' first|refine Zz ?_|intro _
  refine reE ?_
  rfl
 ·have e:partB o=true∧partB q=true:=by
   rw [← Bool.and_eq_true,h1]
  rw [if_pos e]
  repeat' first|refine Zz ?_|intro _
  refine reE ?_
  rfl⟩
instance fnR15Try {o p:Bs}{s':Int}{o' q' p':Bs}:Ans Tryz.prog GL 249 [str o,str p,.agg 4 [int s',str o',str q',str p']] ((o.length≤1000000000∧p.length≤1000000000)∧o'.length≤1000000000∧q'.length≤1000000000∧p'.length≤1000000000) (.tup [endA (tryE o p ⟨s',o',q',p'⟩).1,int (tryE o p ⟨s',o',q',p'⟩).2]):=⟨fun hp=>by
 obtain⟨⟨l1,l2⟩,l3,l4,l5⟩:=hp
 refine spec_enter Tryz.func249 rfl Tryz.ntmps249 rfl (fun _ hs=>?_)
 unfold tryE
 repeat' first|refine Zz ?_|intro _
 cases h1:partB o
 ·rw [if_pos (.inl rfl)]
  repeat' first|refine Zz ?_|intro _
  refine reE ?_
  rfl
 repeat' first|refine Zz ?_|intro _
 cases h2:partB p
 ·rw [if_pos (.inr rfl)]
  repeat' first|refine Zz ?_|intro _
  refine reE ?_
  rfl
 rw [if_neg (by decide)]
 repeat' first|refine Zz ?_|intro _
 cases h3:isE ⟨s',o',q',p'⟩ 1
 ·rw [if_pos (.inl rfl)]
  repeat' first|refine Zz ?_|intro _
  refine reE ?_
  rfl
 by_cases h4:q'=o
 ·rw [if_neg (by rintro (h|h);exact absurd h (by decide);exact h h4)]
  repeat' first|refine Zz ?_|intro _
  rw [decide_eq_false (not_not_intro h4)]
  repeat' first|refine Zz ?_|intro _
  refine reE ?_
  rfl
 ·rw [if_pos (.inr h4)]
  repeat' first|refine Zz ?_|intro _
  rw [decide_eq_true (show q'≠o from h4)]
  repeat' first|refine Zz ?_|intro _
  refine reE ?_
  rfl⟩
theorem openE_no {x t:EndX}{a b:Int}{i r:Bs}(h:isE x a=false∨isE t b=false∨¬ (t.o=x.q∧t.q=x.o∧t.p=i)):openE x a i r t b=(zeroE,13):=by
 unfold openE
 rw [if_neg]
 rintro⟨e1,e2,e3⟩
 rcases h with h|h|h
 ·rw [h] at e1;cases e1
 ·rw [h] at e2;cases e2
 ·exact h (of_decide_eq_true e3)
theorem openE_yes {x t:EndX}{a b:Int}{i r:Bs}(h1:isE x a=true)(h2:isE t b=true)(h3:t.o=x.q∧t.q=x.o∧t.p=i):openE x a i r t b=(⟨3,x.o,x.q,r⟩,0):=by
 unfold openE
 rw [if_pos ⟨h1,h2,decide_eq_true h3⟩]
set_option maxHeartbeats 2000000 in
instance fnR15Ack {s:Int}{o q p:Bs}{s':Int}{o' q' p' i r:Bs}:Ans Tryz.prog GL 251 [.agg 4 [int s,str o,str q,str p],str i,str r,.agg 4 [int s',str o',str q',str p']] ((i.length≤1000000000∧r.length≤1000000000)∧(o.length≤1000000000∧q.length≤1000000000∧p.length≤1000000000)∧(o'.length≤1000000000∧q'.length≤1000000000∧p'.length≤1000000000))
  (.tup [endA (ackE ⟨s,o,q,p⟩ i r ⟨s',o',q',p'⟩).1,int (ackE ⟨s,o,q,p⟩ i r ⟨s',o',q',p'⟩).2]):=⟨fun hp=>by
 obtain⟨⟨l1,l2⟩,hp1,hp2⟩:=hp
 refine spec_enter Tryz.func251 rfl Tryz.ntmps251 rfl (fun _ hs=>?_)
 unfold ackE
 repeat' first|refine Zz ?_|intro _
 cases h1:partB i
 ·rw [if_pos (.inl rfl)]
  repeat' first|refine Zz ?_|intro _
  refine reE ?_
  rfl
 repeat' first|refine Zz ?_|intro _
 cases h2:partB r
 ·rw [if_pos (.inr rfl)]
  repeat' first|refine Zz ?_|intro _
  refine reE ?_
  rfl
 rw [if_neg (by decide)]
 repeat' first|refine Zz ?_|intro _
 cases h3:isE ⟨s,o,q,p⟩ 1
 ·rw [openE_no (.inl h3)]
  repeat' first|refine Zz ?_|intro _
  refine reE ?_
  rfl
 repeat' first|refine Zz ?_|intro _
 cases h4:isE ⟨s',o',q',p'⟩ 2
 ·rw [openE_no (.inr (.inl h4))]
  repeat' first|refine Zz ?_|intro _
  refine reE ?_
  rfl
 by_cases h5:o=q'
 rotate_left
 ·rw [openE_no (.inr (.inr (fun e=>h5 e.2.1.symm))),decide_eq_false h5]
  repeat' first|refine Zz ?_|intro _
  refine reE ?_
  rfl
 by_cases h6:q=o'
 rotate_left
 ·rw [openE_no (.inr (.inr (fun e=>h6 e.1.symm))),decide_eq_true h5,decide_eq_false h6]
  repeat' first|refine Zz ?_|intro _
  refine reE ?_
  rfl
 rw [decide_eq_true h5,decide_eq_true h6]
 by_cases h7:p'=i
 ·rw [openE_yes h3 h4 ⟨h6.symm,h5.symm,h7⟩]
  repeat' first|refine Zz ?_|intro _
  rw [decide_eq_false (not_not_intro h7)]
  repeat' first|refine Zz ?_|intro _
  refine reE ?_
  rfl
 ·rw [openE_no (.inr (.inr (fun e=>h7 e.2.2)))]
  repeat' first|refine Zz ?_|intro _
  rw [decide_eq_true (show p'≠i from h7)]
  repeat' first|refine Zz ?_|intro _
  refine reE ?_
  rfl⟩
set_option maxHeartbeats 2000000 in
instance fnR15Confirm {s:Int}{o q p:Bs}{s':Int}{o' q' p' i:Bs}:Ans Tryz.prog GL 250 [.agg 4 [int s,str o,str q,str p],str i,.agg 4 [int s',str o',str q',str p']] ((o.length≤1000000000∧q.length≤1000000000∧p.length≤1000000000)∧(o'.length≤1000000000∧q'.length≤1000000000∧p'.length≤1000000000))
  (.tup [endA (cnfE ⟨s,o,q,p⟩ i ⟨s',o',q',p'⟩).1,int (cnfE ⟨s,o,q,p⟩ i ⟨s',o',q',p'⟩).2]):=⟨fun hp=>by
 obtain⟨hp1,hp2⟩:=hp
 refine spec_enter Tryz.func250 rfl Tryz.ntmps250 rfl (fun _ hs=>?_)
 unfold cnfE
 repeat' first|refine Zz ?_|intro _
 cases h3:isE ⟨s,o,q,p⟩ 2
 ·rw [openE_no (.inl h3)]
  repeat' first|refine Zz ?_|intro _
  refine reE ?_
  rfl
 repeat' first|refine Zz ?_|intro _
 cases h4:isE ⟨s',o',q',p'⟩ 3
 ·rw [openE_no (.inr (.inl h4))]
  repeat' first|refine Zz ?_|intro _
  refine reE ?_
  rfl
 by_cases h5:o=q'
 rotate_left
 ·rw [openE_no (.inr (.inr (fun e=>h5 e.2.1.symm))),decide_eq_false h5]
  repeat' first|refine Zz ?_|intro _
  refine reE ?_
  rfl
 by_cases h6:q=o'
 rotate_left
 ·rw [openE_no (.inr (.inr (fun e=>h6 e.1.symm))),decide_eq_true h5,decide_eq_false h6]
  repeat' first|refine Zz ?_|intro _
  refine reE ?_
  rfl
 rw [decide_eq_true h5,decide_eq_true h6]
 by_cases h7:p'=i
 ·rw [openE_yes h3 h4 ⟨h6.symm,h5.symm,h7⟩]
  repeat' first|refine Zz ?_|intro _
  rw [decide_eq_false (not_not_intro h7)]
  repeat' first|refine Zz ?_|intro _
  refine reE ?_
  rfl
 ·rw [openE_no (.inr (.inr (fun e=>h7 e.2.2)))]
  repeat' first|refine Zz ?_|intro _
  rw [decide_eq_true (show p'≠i from h7)]
  repeat' first|refine Zz ?_|intro _
  refine reE ?_
  rfl⟩
instance fnLBytes {s:Int}{o q p:Bs}:Ans Tryz.prog GL 303 [.agg 4 [int s,str o,str q,str p]] (s≤9223372036854775807) (str (enxB ⟨s,o,q,p⟩)):=⟨fun h1=>by
 refine spec_enter Tryz.func303 rfl Tryz.ntmps303 rfl (fun _ hs=>?_)
 repeat' first|refine Vz ?_|intro _
 refine reE ?_
 rfl⟩
instance fnR15Bytes {s:Int}{o q p:Bs}:Ans Tryz.prog GL 89 [.agg 4 [int s,str o,str q,str p]] (s≤9223372036854775807) (str (enxB ⟨s,o,q,p⟩)):=⟨fun h1=>by
 refine spec_enter Tryz.func89 rfl Tryz.ntmps89 rfl (fun _ hs=>?_)
 repeat' first|refine Vz ?_|intro _
 refine reE ?_
 rfl⟩
end Go.Proofs.YtppngnhckahbnaaGreatDoor
