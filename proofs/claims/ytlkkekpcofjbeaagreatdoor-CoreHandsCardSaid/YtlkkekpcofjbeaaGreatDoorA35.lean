/- banks, walked: two changes, one behind the other; the program's coins -/
import Derived.Test.YtlkkekpcofjbeaaGreatDoorA23
import Derived.Test.YtlkkekpcofjbeaaGreatDoorA27
import Derived.Test.YtlkkekpcofjbeaaGreatDoorA34
namespace Go.Proofs.YtlkkekpcofjbeaaGreatDoor
open Go Go.RowKit Tw Av
set_option maxHeartbeats 1000000 in
instance fnLParts {l:List Bs}{xs:List AV}{id:Option Value}[hx:Strs xs l]:Ans Tryz.prog GL 156 [.sl 1 xs id] (1<=l.length) (boo (l.all partB)):=⟨fun hn=>by
 have h:=hx.out
 subst h
 have hm:(l.map str).length=l.length:=llm _
 refine qE Tryz.func156 rfl Tryz.ntmps156 rfl (fun _ hs=>?_)
 refine ac_bnd 0 (fun hb=>?_)
 have hb:=maxLen_le hb
 repeat' first|refine Vz ?_|intro _
 refine ac_loop (α:=Nat) (fun i=>[(3,boo true),(6,.sl 1 (l.map str) id),(7,int (l.map str).length),(8,int i)]) (fun i=>[]) (fun i=>i<=l.length/\∀ j,(hj:j < l.length)->j < i->partB l[j]=true) (fun i=>l.length - i) 0 ⟨rfl,rfl,rfl,rfl,trivial⟩ slr ⟨Nat.zero_le _,fun _ _ h=>absurd h (by omega)⟩ ?_
 rintro i ⟨hi,hall⟩
 repeat' first|refine Vz ?_|intro _
 refine ac_cond (fun hlt=>?_) (fun hlt=>?_)
 ·have hil:i < l.length:=by omega
  repeat' first|refine Vz ?_|intro _
  cases hb:partB l[i]
  ·repeat' first|refine Vz ?_|intro _
   refine reE ?_
   have:l.all partB=false:=List.all_eq_false.2 ⟨_,List.getElem_mem hil,by rw [hb];decide⟩
   rw [this]
   rfl
  ·repeat' first|refine Vz ?_|intro _
   refine ae_round (i + 1) ⟨rfl,rfl,rfl,rfl,trivial⟩ slr ⟨hil,fun j hj h=>?_⟩ (by omega)
   by_cases hj2:j < i
   ·exact hall j hj hj2
   ·obtain rfl:j=i:=by omega
    exact hb
 ·obtain rfl:i=l.length:=by omega
  have ht:l.all partB=true:=List.all_eq_true.2 fun x hx=>by
   obtain⟨j,hj,rfl⟩:=List.getElem_of_mem hx
   exact hall j hj hj
  rw [ht]
  repeat' first|refine Vz ?_|intro _
  refine reE ?_
  rfl⟩
set_option maxHeartbeats 1000000 in
instance fnLCheck {s:Int}{o q p:Bs}:Ans Tryz.prog GL 96 [.agg 4 [int s,str o,str q,str p]] True (boo (chkE ⟨s,o,q,p⟩)):=⟨fun _=>by
 refine qE Tryz.func96 rfl Tryz.ntmps96 rfl (fun _ hs=>?_)
 by_cases h1:s=1
 ·subst h1
  repeat' first|refine Zz ?_|intro _
  rw [show ([o,q].all partB)=(partB o && partB q) by simp]
  cases p1:partB o && partB q
  ·repeat' first|refine Zz ?_|intro _
   refine reE ?_
   simp only [Bool.and_eq_false_iff] at p1
   rcases p1 with p1|p1 <;> simp [outOf,chkE,p1]
  ·repeat' first|refine Zz ?_|intro _
   refine reE ?_
   simp only [Bool.and_eq_true] at p1
   simp [outOf,chkE,p1.1,p1.2]
 by_cases h2:2<=s/\s<=4
 ·have e:chkE ⟨s,o,q,p⟩=[o,q,p].all partB:=by
   unfold chkE
   simp only [if_neg h1]
   rw [dT (show 1<=s/\s<=4 by omega)]
   simp
  rw [e]
  by_cases h3:s=2
  ·subst h3
   repeat' first|refine Zz ?_|intro _
   refine reE ?_
   rfl
  ·by_cases h4:s=3
   ·subst h4
    repeat' first|refine Zz ?_|intro _
    refine reE ?_
    rfl
   ·obtain rfl:s=4:=by omega
    repeat' first|refine Zz ?_|intro _
    refine reE ?_
    rfl
 ·have e:chkE ⟨s,o,q,p⟩=false:=by
   unfold chkE
   rw [dZ (show ¬ (1<=s/\s<=4) by omega)]
   rfl
  rw [e]
  have h3:s≠2:=by omega
  have h4:s≠3:=by omega
  have h5:s≠4:=by omega
  repeat' first|refine Zz ?_|intro _
  refine reE ?_
  rfl⟩
set_option maxHeartbeats 1000000 in
instance fnR15Check {s:Int}{o q p:Bs}:Ans Tryz.prog GL 83 [.agg 4 [int s,str o,str q,str p]] (o.length<=1000000000/\q.length<=1000000000/\p.length<=1000000000) (boo (chkE ⟨s,o,q,p⟩)):=⟨fun hp=>by
 obtain⟨l1,l2,l3⟩:=hp
 refine qE Tryz.func83 rfl Tryz.ntmps83 rfl (fun _ hs=>?_)
 by_cases h1:1<=s/\s<=4
 ·have e:chkE ⟨s,o,q,p⟩=(partB o && (partB q && if s=1 then decide (p=[]) else partB p)):=by
   unfold chkE
   rw [dT h1,Bool.true_and]
  rw [e]
  repeat' first|refine Zz ?_|intro _
  cases p1:partB o
  ·repeat' first|refine Zz ?_|intro _
   refine reE ?_
   rfl
  repeat' first|refine Zz ?_|intro _
  cases p2:partB q
  ·repeat' first|refine Zz ?_|intro _
   refine reE ?_
   rfl
  by_cases h2:s=1
  ·rw [if_pos h2]
   repeat' first|refine Zz ?_|intro _
   refine reE ?_
   rfl
  ·rw [if_neg h2]
   repeat' first|refine Zz ?_|intro _
   refine reE ?_
   rfl
 ·have e:chkE ⟨s,o,q,p⟩=false:=by
   unfold chkE
   rw [dZ h1]
   rfl
  rw [e]
  by_cases h2:s < 1
  all_goals
   repeat' first|refine Zz ?_|intro _
   refine reE ?_
   rfl⟩
instance fnLIs {s:Int}{o q p:Bs}{n:Int}:Ans Tryz.prog GL 240 [.agg 4 [int s,str o,str q,str p],int n] True (boo (isE ⟨s,o,q,p⟩ n)):=⟨fun _=>by
 refine qE Tryz.func240 rfl Tryz.ntmps240 rfl (fun _ hs=>?_)
 unfold isE
 by_cases h1:s=n
 ·rw [dT h1]
  repeat' first|refine Zz ?_|intro _
  refine reE ?_
  rfl
 ·rw [dZ h1]
  repeat' first|refine Zz ?_|intro _
  refine reE ?_
  rfl⟩

theorem all2 (a b:Bs):[a,b].all partB=(partB a && partB b):=by simp
theorem fnMeans {s:Int}{o q p:Bs}{s':Int}{o' q' p' i:Bs}{gt go gi:Nat}{Ti:TypeId}:Av.Spec Tryz.prog GL 274 [ptr gt,ptr go,ptr gi] [.var gt 66 (.agg 4 [int s',str o',str q',str p']),.var go 66 (.agg 4 [int s,str o,str q,str p]),.var gi Ti (str i)]
  fun u m=>u=boo (meanE ⟨s,o,q,p⟩ ⟨s',o',q',p'⟩ i)/\m=[.var gt 66 (.agg 4 [int s',str o',str q',str p']),.var go 66 (.agg 4 [int s,str o,str q,str p]),.var gi Ti (str i)]:=by
 refine qE Tryz.func274 rfl Tryz.ntmps274 rfl (fun _ hs=>?_)
 unfold meanE
 by_cases h1:o'=q
 ·by_cases h2:q'=o
  ·repeat' first|refine Zz ?_|intro _
   refine reK _ ⟨?_,rfl⟩ slr
   rw [decide_eq_decide.2 (show (o'=q/\q'=o/\p'=i)↔p'=i from ⟨fun e=>e.2.2,fun e=>⟨h1,h2,e⟩⟩)]
   rfl
  ·repeat' first|refine Zz ?_|intro _
   refine reK _ ⟨?_,rfl⟩ slr
   rw [dZ (show ¬ (o'=q/\q'=o/\p'=i) from fun e=>h2 e.2.1)]
   rfl
 ·repeat' first|refine Zz ?_|intro _
  refine reK _ ⟨?_,rfl⟩ slr
  rw [dZ (show ¬ (o'=q/\q'=o/\p'=i) from fun e=>h1 e.1)]
  rfl
set_option maxHeartbeats 2000000 in
instance fnLOpens {s:Int}{o q p:Bs}{s':Int}{o' q' p' i r:Bs}{a b:Int}:Ans Tryz.prog GL 241 [.agg 4 [int s,str o,str q,str p],int a,str i,str r,.agg 4 [int s',str o',str q',str p'],int b] True
  (.tup [endA (openE ⟨s,o,q,p⟩ a i r ⟨s',o',q',p'⟩ b).1,int (openE ⟨s,o,q,p⟩ a i r ⟨s',o',q',p'⟩ b).2]):=⟨fun _=>by
 refine qE Tryz.func241 rfl Tryz.ntmps241 rfl (fun _ hs=>?_)
 have hno:(isE ⟨s,o,q,p⟩ a=false\/isE ⟨s',o',q',p'⟩ b=false\/meanE ⟨s,o,q,p⟩ ⟨s',o',q',p'⟩ i=false)->openE ⟨s,o,q,p⟩ a i r ⟨s',o',q',p'⟩ b=(zeroE,13):=fun h=>by
  unfold openE
  rw [if_neg]
  rintro⟨e1,e2,e3⟩
  rcases h with h|h|h
  ·rw [h] at e1;cases e1
  ·rw [h] at e2;cases e2
  ·rw [h] at e3;cases e3
 repeat' first|refine Zz ?_|intro _
 rename_i g6 g8 g10 g12
 refine al_makeFunc (vs:=[.pointer (some ⟨g10,0,none⟩),.pointer (some ⟨g6,0,none⟩),.pointer (some ⟨g8,0,none⟩)]) ?_
 repeat' first|refine Zz ?_|intro _
 cases h1:isE ⟨s,o,q,p⟩ a
 ·rw [hno (.inl h1)]
  repeat' first|refine Zz ?_|intro _
  refine reE ?_
  rfl
 repeat' first|refine Zz ?_|intro _
 cases h2:isE ⟨s',o',q',p'⟩ b
 ·rw [hno (.inr (.inl h2))]
  repeat' first|refine Zz ?_|intro _
  refine reE ?_
  rfl
 repeat' first|refine Zz ?_|intro _
 refine al_callV (args:=[]) (cs:=[.pointer (some ⟨g10,0,none⟩),.pointer (some ⟨g6,0,none⟩),.pointer (some ⟨g8,0,none⟩)]) [.var g10 66 (.agg 4 [int s',str o',str q',str p']),.var g6 66 (.agg 4 [int s,str o,str q,str p]),.var g8 9 (str i)] [.var g12 66 (.agg 4 [int 0,str [],str [],str []])] (by rw [hs];exact fnMeans) (fun u m1 hh=>?_) ?_
 rotate_left
 ·exact (List.perm_append_comm (l₁:=[_]) (l₂:=[_,_,_])).trans (List.Perm.append_right [_] (List.Perm.cons _ (List.Perm.swap _ _ _)))
 obtain⟨rfl,rfl⟩:=hh
 cases h3:meanE ⟨s,o,q,p⟩ ⟨s',o',q',p'⟩ i
 ·rw [hno (.inr (.inr h3))]
  repeat' first|refine Zz ?_|intro _
  refine reE ?_
  rfl
 have hy:openE ⟨s,o,q,p⟩ a i r ⟨s',o',q',p'⟩ b=(⟨3,o,q,r⟩,0):=by
  unfold openE
  rw [if_pos ⟨h1,h2,h3⟩]
 rw [hy]
 repeat' first|refine Zz ?_|intro _
 refine reE ?_
 rfl⟩
instance fnLAck {s:Int}{o q p:Bs}{s':Int}{o' q' p' i r:Bs}:Ans Tryz.prog GL 188 [.agg 4 [int s,str o,str q,str p],str i,str r,.agg 4 [int s',str o',str q',str p']] True
  (.tup [endA (ackE ⟨s,o,q,p⟩ i r ⟨s',o',q',p'⟩).1,int (ackE ⟨s,o,q,p⟩ i r ⟨s',o',q',p'⟩).2]):=⟨fun _=>by
 have h2:1<=[i,r].length:=Nat.le_add_left 1 1
 refine qE Tryz.func188 rfl Tryz.ntmps188 rfl (fun _ hs=>?_)
 repeat' first|refine Zz ?_|intro _
 rw [all2]
 unfold ackE
 cases h1:partB i && partB r
 ·have e:partB i=false\/partB r=false:=Bool.and_eq_false_iff.1 h1
  rw [if_pos e]
  repeat' first|refine Zz ?_|intro _
  refine reE ?_
  rfl
 ·have e:¬ (partB i=false\/partB r=false):=by
   simp only [Bool.and_eq_true] at h1
   rw [h1.1,h1.2]
   decide
  rw [if_neg e]
  repeat' first|refine Zz ?_|intro _
  refine reE ?_
  rfl⟩
instance fnLConfirm {s:Int}{o q p:Bs}{s':Int}{o' q' p' i:Bs}:Ans Tryz.prog GL 187 [.agg 4 [int s,str o,str q,str p],str i,.agg 4 [int s',str o',str q',str p']] True
  (.tup [endA (cnfE ⟨s,o,q,p⟩ i ⟨s',o',q',p'⟩).1,int (cnfE ⟨s,o,q,p⟩ i ⟨s',o',q',p'⟩).2]):=⟨fun _=>by
 refine qE Tryz.func187 rfl Tryz.ntmps187 rfl (fun _ hs=>?_)
 repeat' first|refine Zz ?_|intro _
 refine reE ?_
 rfl⟩
instance fnLInit {o q:Bs}:Ans Tryz.prog GL 184 [str o,str q] True (.tup [endA (initE o q).1,int (initE o q).2]):=⟨fun _=>by
 have h2:1<=[o,q].length:=Nat.le_add_left 1 1
 refine qE Tryz.func184 rfl Tryz.ntmps184 rfl (fun _ hs=>?_)
 repeat' first|refine Zz ?_|intro _
 rw [all2]
 unfold initE
 cases h1:partB o && partB q
 ·have e:¬ (partB o=true/\partB q=true):=by
   rw [<- bet,h1]
   decide
  rw [if_neg e]
  repeat' first|refine Zz ?_|intro _
  refine reE ?_
  rfl
 ·have e:partB o=true/\partB q=true:=by
   rw [<- bet,h1]
  rw [if_pos e]
  repeat' first|refine Zz ?_|intro _
  refine reE ?_
  rfl⟩
instance fnLTry {o p:Bs}{s':Int}{o' q' p':Bs}:Ans Tryz.prog GL 186 [str o,str p,.agg 4 [int s',str o',str q',str p']] True (.tup [endA (tryE o p ⟨s',o',q',p'⟩).1,int (tryE o p ⟨s',o',q',p'⟩).2]):=⟨fun _=>by
 have h2:1<=[o,p].length:=Nat.le_add_left 1 1
 refine qE Tryz.func186 rfl Tryz.ntmps186 rfl (fun _ hs=>?_)
 repeat' first|refine Zz ?_|intro _
 rw [all2]
 unfold tryE
 cases h1:partB o && partB p
 ·have e:partB o=false\/partB p=false:=Bool.and_eq_false_iff.1 h1
  rw [if_pos e]
  repeat' first|refine Zz ?_|intro _
  refine reE ?_
  rfl
 ·have e:¬ (partB o=false\/partB p=false):=by
   simp only [Bool.and_eq_true] at h1
   rw [h1.1,h1.2]
   decide
  rw [if_neg e]
  repeat' first|refine Zz ?_|intro _
  cases h3:isE ⟨s',o',q',p'⟩ 1
  ·rw [if_pos (.inl rfl)]
   repeat' first|refine Zz ?_|intro _
   refine reE ?_
   rfl
  ·by_cases h4:q'=o
   ·rw [if_neg (by rintro (h|h);exact absurd h (by decide);exact h h4)]
    repeat' first|refine Zz ?_|intro _
    rw [dZ (nni h4)]
    repeat' first|refine Zz ?_|intro _
    refine reE ?_
    rfl
   ·rw [if_pos (.inr h4)]
    repeat' first|refine Zz ?_|intro _
    rw [dT (show q'≠o from h4)]
    repeat' first|refine Zz ?_|intro _
    refine reE ?_
    rfl⟩
instance fnLBytes {s:Int}{o q p:Bs}:Ans Tryz.prog GL 185 [.agg 4 [int s,str o,str q,str p]] (s<=9223372036854775807) (str (enxB ⟨s,o,q,p⟩)):=⟨fun h1=>by
 refine qE Tryz.func185 rfl Tryz.ntmps185 rfl (fun _ hs=>?_)
 repeat' first|refine Vz ?_|intro _
 refine reE ?_
 rfl⟩

theorem re_lens (s:Bs):(reS1 s).length<=s.length/\(reS2 s).length<=s.length/\(reS3 s).length<=s.length:=by
 have h1:=(rsT_len 115 8 s false).1
 have h2:=(rsT_len 111 32 (reS1 s) (reB1 s)).1
 have h3:=(rsT_len 113 32 (reS2 s) (reB2 s)).1
 unfold reS3
 unfold reS2 at *
 unfold reS1 at *
 exact⟨h1,by omega,by omega⟩
theorem re1 {s:Bs}:rsT 115 8 s false=reS1 s:=rfl
theorem re2 {s:Bs}:riB 115 4 s false=reB1 s:=rfl
theorem re3 {s:Bs}:rsT 111 32 (reS1 s) (reB1 s)=reS2 s:=rfl
theorem re4 {s:Bs}:rbT 111 32 (reS1 s) (reB1 s)=reB2 s:=rfl
theorem re5 {s:Bs}:rsT 113 32 (reS2 s) (reB2 s)=reS3 s:=rfl
theorem re6 {s:Bs}:rbT 113 32 (reS2 s) (reB2 s)=reB3 s:=rfl
theorem red_no {s:Bs}(h:reZ s≠0\/chkE (reV s)=false):redV s=zeroE/\redE s=10:=by
 have hk:reOk s=false:=by
  unfold reOk
  rcases h with h|h
  ·rw [dZ h,Bool.false_and]
  ·rw [h,Bool.and_false]
 unfold redV redE
 rw [hk]
 exact⟨rfl,rfl⟩
theorem red_yes {s:Bs}(h1:reZ s=0)(h2:chkE (reV s)=true):redV s=reV s/\redE s=0:=by
 have hk:reOk s=true:=by
  unfold reOk
  rw [dT h1,h2]
  rfl
 unfold redV redE
 rw [hk]
 exact⟨rfl,rfl⟩
set_option maxHeartbeats 1000000 in
instance fnLRead {s:Bs}:Ans Tryz.prog GL 56 [str s] (s.length<=1000000000) (.tup [endA (redV s),int (redE s)]):=⟨fun hl=>by
 obtain⟨l1,l2,l3⟩:=re_lens s
 have e1:(reS1 s).length=(rsT 115 8 s false).length:=rfl
 have e2:(reS2 s).length=(rsT 111 32 (rsT 115 8 s false) (riB 115 4 s false)).length:=rfl
 have e3:(reS3 s).length=(rsT 113 32 (rsT 111 32 (rsT 115 8 s false) (riB 115 4 s false)) (rbT 111 32 (rsT 115 8 s false) (riB 115 4 s false))).length:=rfl
 refine qE Tryz.func56 rfl Tryz.ntmps56 rfl (fun _ hs=>?_)
 repeat' first|refine Yz ?_|intro _
 refine al_callK (args:=[str s]) [] _ (by rw [hs];exact tlvRead) (fun u m1 hh=>?_) lpr
 obtain⟨gr,rfl,rfl⟩:=hh
 repeat' first|refine Yz ?_|intro _
 rw [re1,re2,re3,re4,re5,re6]
 by_cases hE:reZ s=0
 rotate_left
 ·obtain⟨v1,v2⟩:=red_no (.inl hE)
  rw [v1,v2]
  rw [show reZ s=reE' (rsT 112 32 (reS3 s) (reB3 s)) (rbT 112 32 (reS3 s) (reB3 s)) from rfl] at hE
  repeat' first|refine Yz ?_|intro _
  refine reE ?_
  rfl
 cases hc:chkE (reV s)
 ·obtain⟨v1,v2⟩:=red_no (.inr hc)
  rw [v1,v2]
  rw [show reZ s=reE' (rsT 112 32 (reS3 s) (reB3 s)) (rbT 112 32 (reS3 s) (reB3 s)) from rfl] at hE
  unfold reV at hc
  repeat' first|refine Yz ?_|intro _
  rw [hc]
  repeat' first|refine Yz ?_|intro _
  refine reE ?_
  rfl
 ·obtain⟨v1,v2⟩:=red_yes hE hc
  rw [v1,v2]
  rw [show reZ s=reE' (rsT 112 32 (reS3 s) (reB3 s)) (rbT 112 32 (reS3 s) (reB3 s)) from rfl] at hE
  unfold reV at hc
  repeat' first|refine Yz ?_|intro _
  rw [hc]
  repeat' first|refine Yz ?_|intro _
  refine reE ?_
  rfl⟩
set_option maxHeartbeats 1000000 in
instance fnR15Read {s:Bs}:Ans Tryz.prog GL 49 [str s] (s.length<=1000000000) (.tup [endA (redV s),int (redE s)]):=⟨fun hl=>by
 obtain⟨l1,l2,l3⟩:=re_lens s
 have e1:(reS1 s).length=(rsT 115 8 s false).length:=rfl
 have e2:(reS2 s).length=(rsT 111 32 (rsT 115 8 s false) (riB 115 4 s false)).length:=rfl
 have e3:(reS3 s).length=(rsT 113 32 (rsT 111 32 (rsT 115 8 s false) (riB 115 4 s false)) (rbT 111 32 (rsT 115 8 s false) (riB 115 4 s false))).length:=rfl
 have t1:=(rsT_len 111 32 (reS1 s) (reB1 s)).2
 have t2:=(rsT_len 113 32 (reS2 s) (reB2 s)).2
 have t3:=(rsT_len 112 32 (reS3 s) (reB3 s)).2
 have t4:(rtT 111 32 (reS1 s) (reB1 s)).length<=1000000000/\(rtT 113 32 (reS2 s) (reB2 s)).length<=1000000000/\(rtT 112 32 (reS3 s) (reB3 s)).length<=1000000000:=by omega
 refine qE Tryz.func49 rfl Tryz.ntmps49 rfl (fun _ hs=>?_)
 repeat' first|refine Yz ?_|intro _
 rw [re1,re2,re3,re4,re5,re6]
 by_cases hE:reZ s=0
 rotate_left
 ·obtain⟨v1,v2⟩:=red_no (.inl hE)
  rw [v1,v2]
  rw [show reZ s=reE' (rsT 112 32 (reS3 s) (reB3 s)) (rbT 112 32 (reS3 s) (reB3 s)) from rfl] at hE
  repeat' first|refine Yz ?_|intro _
  refine reE ?_
  rfl
 cases hc:chkE (reV s)
 ·obtain⟨v1,v2⟩:=red_no (.inr hc)
  rw [v1,v2]
  rw [show reZ s=reE' (rsT 112 32 (reS3 s) (reB3 s)) (rbT 112 32 (reS3 s) (reB3 s)) from rfl] at hE
  unfold reV at hc
  repeat' first|refine Yz ?_|intro _
  rw [hc]
  repeat' first|refine Yz ?_|intro _
  refine reE ?_
  rfl
 ·obtain⟨v1,v2⟩:=red_yes hE hc
  rw [v1,v2]
  rw [show reZ s=reE' (rsT 112 32 (reS3 s) (reB3 s)) (rbT 112 32 (reS3 s) (reB3 s)) from rfl] at hE
  unfold reV at hc
  repeat' first|refine Yz ?_|intro _
  rw [hc]
  repeat' first|refine Yz ?_|intro _
  refine reE ?_
  rfl⟩
end Go.Proofs.YtlkkekpcofjbeaaGreatDoor

namespace Av
open Go Go.RowKit Tw
theorem SpecE.imp {P:Program}{gl:List (Nat × AV)}{f:FuncId}{args:List AV}{out out':AV}(h:SpecE P gl f args out)(hi:Imp out out'):SpecE P gl f args out':=Spec.mk fun ok w c hS hv=>
 Calls.mono (h.run ok w c hS hv) fun _ _ ⟨v,m',ok',cv,e0,e,r,st⟩=>by
  obtain⟨rfl,rfl⟩:=e0
  exact⟨out',[],ok',cv,⟨rfl,rfl⟩,e,hi _ _ _ r,st⟩
end Av
namespace Go.Proofs.YtlkkekpcofjbeaaGreatDoor
open Go Go.RowKit Tw Av
theorem DOk.le {d:List Ent}(h:DOk d):d.length<=1073741823:=Nat.le_trans h.l (by decide)
theorem DOk.val {d:List Ent}(h:DOk d)(k:Bs):(valE d k).length<=4000:=by
 unfold valE gO getR
 cases hf:d.find? fun x=>decide (x.key=k) with
 | none=>exact Nat.zero_le _
 | some x=>exact (h.f x (List.mem_of_find?_eq_some hf)).2
instance (priority:=high) dGet {d:List Ent}{k:Bs}{xs:List AV}{id:Option Value}[hx:Ents xs d]:Ans Tryz.prog GL 55 [.agg 1 [.sl 2 xs id],str k] (DOk d) (.tup [str (valE d k),boo (gO d k).isSome]):=⟨fun h=>by
 have:=(fnGet (l:=d) (k:=k) (xs:=xs) (id:=id)).spec h.le
 rw [val_bs h.s,is_bs h.s] at this
 exact this⟩
instance (priority:=high) dRGet {d:List Ent}{k:Bs}{xs:List AV}{id:Option Value}[hx:Ents xs d]:Ans Tryz.prog GL 48 [.sl 2 xs id,str k] (DOk d) (.tup [str (valE d k),boo (gO d k).isSome]):=⟨fun h=>by
 have:=(fnRGet (l:=d) (k:=k) (xs:=xs) (id:=id)).spec h.le
 rw [<- Option.isSome_map (f:=(·.val))] at this
 exact this⟩
instance (priority:=high) dPut {d:List Ent}{k v:Bs}{xs:List AV}{id:Option Value}[hx:Ents xs d]:Ans Tryz.prog GL 27 [.agg 1 [.sl 2 xs id],str k,str v] (DOk d) (.tup [dA (putR d k v).1,int (putR d k v).2]):=⟨fun h=>by
 refine SpecE.imp ((fnPut (l:=d) (k:=k) (v:=v) (xs:=xs) (id:=id)).spec h.le) ?_
 unfold putA putR
 by_cases he:putE d k v=0
 ·rw [if_pos he,if_pos he,he]
  exact Imp.of_eq rfl
 ·rw [if_neg he,if_neg he]
  exact (inferInstance:ImpR (.tup [.agg 1 [.lit (.slice none 0 0)],int (putE d k v)]) (.tup [.agg 1 [.sl 2 [] none],int (putE d k v)])).imp⟩
instance (priority:=high) dRPut {d:List Ent}{k v:Bs}{xs:List AV}{id:Option Value}[hx:Ents xs d]:Ans Tryz.prog GL 42 [.sl 2 xs id,str k,str v] (DOk d) (.tup [.sl 2 ((putR d k v).1.map entA) none,int (putR d k v).2]):=⟨fun h=>by
 refine SpecE.imp ((fnRPut (l:=d) (k:=k) (v:=v) (xs:=xs) (id:=id)).spec h.le) ?_
 unfold putRA putR
 rw [putE_eq v h.s]
 by_cases he:putE d k v=0
 ·have e1:=putS_eq ⟨k,v⟩ h.s
  unfold putRS putS at e1
  rw [putE_eq v h.s] at e1
  simp only [if_pos he] at e1
  rw [if_pos he,if_pos he,he,e1]
  exact Imp.of_eq rfl
 ·rw [if_neg he,if_neg he]
  exact (inferInstance:ImpR (.tup [.lit (.slice none 0 0),int (putE d k v)]) (.tup [.sl 2 [] none,int (putE d k v)])).imp⟩
instance (priority:=high) dDrop {d:List Ent}{k:Bs}{xs:List AV}[hx:Ents xs d]:Ans Tryz.prog GL 210 [.agg 1 [.sl 2 xs none],str k] (DOk d) (.tup [dA (drpL d k),boo (gO d k).isSome]):=⟨fun h=>by
 have:=(fnDrop (l:=d) (k:=k) (xs:=xs)).spec h.le
 rw [is_bs h.s] at this
 unfold drpL
 rw [is_bs h.s]
 exact this⟩
def fltR (d:List Ent)(k:Bs):List Ent:=d.filter fun x=>decide (x.key≠k)
theorem flt_all {d:List Ent}{k:Bs}(h:∀ x ∈ d,x.key≠k):fltR d k=d:=List.filter_eq_self.2 fun x hx=>dT (h x hx)
theorem flt_drp {d:List Ent}{k:Bs}(h:Srt d):fltR d k=drpL d k:=by
 obtain⟨A,B,hA,hB,hl,h1⟩:=bs_parts k h
 rw [drp_parts hl h1]
 have eA:fltR A k=A:=flt_all fun x hx e=>by have:=hA x hx;rw [e,blt_irrefl] at this;cases this
 have eB:fltR B k=B:=flt_all fun x hx e=>by have:=hB x hx;rw [e,blt_irrefl] at this;cases this
 unfold fltR at *
 rcases h1 with⟨_,rfl⟩|⟨v,_,rfl⟩
 ·rw [List.filter_append,eA,eB]
 ·rw [List.filter_append,List.filter_cons,eA,eB]
  simp
theorem flt_is {d:List Ent}{k:Bs}:decide ((fltR d k).length < d.length)=(gO d k).isSome:=by
 unfold fltR gO getR
 rw [Option.isSome_map]
 cases hf:d.find? fun x=>decide (x.key=k) with
 | none=>
  rw [List.find?_eq_none] at hf
  have:d.filter (fun x=>decide (x.key≠k))=d:=List.filter_eq_self.2 fun x hx=>by simpa using hf x hx
  rw [this]
  simp
 | some x=>
  refine dT ?_
  have hm:=List.mem_of_find?_eq_some hf
  have hk:=List.find?_some hf
  by_cases h:(d.filter fun x=>decide (x.key≠k)).length < d.length
  ·exact h
  ·exfalso
   have h2:=List.length_filter_eq_length_iff.1 (Nat.le_antisymm (List.length_filter_le _ _) (Nat.not_lt.1 h)) x hm
   simp at h2 hk
   exact h2 hk
set_option maxHeartbeats 1000000 in
instance (priority:=high) dRDrop {d:List Ent}{k:Bs}{xs:List AV}{id:Option Value}[hx:Ents xs d]:Ans Tryz.prog GL 141 [.sl 2 xs id,str k] (DOk d) (.tup [.sl 2 ((drpL d k).map entA) none,boo (gO d k).isSome]):=⟨fun hd=>by
 have h:=hx.out
 subst h
 have hl:=hd.le
 have hm:(d.map entA).length=d.length:=llm _
 rw [<- flt_drp hd.s,<- flt_is]
 refine qE Tryz.func141 rfl Tryz.ntmps141 rfl (fun _ hs=>?_)
 repeat' first|refine Vz ?_|intro _
 refine ac_as 6 (Imp.nil (k:=2)) ?_
 refine ac_st (fun ok w h=>h.full 95 2 none 0) ?_
 refine ac_loop (α:=Nat × Value) (fun q=>[(0,.sl 2 (d.map entA) id),(1,str k),(6,.sl 2 ((fltR (d.take q.1) k).map entA) (some q.2)),(7,int q.1)]) (fun q=>[.tail 95 2 q.2]) (fun q=>q.1<=d.length) (fun q=>d.length - q.1) (0,.slice none 0 0) ⟨rfl,rfl,rfl,rfl,trivial⟩ slr (Nat.zero_le _) ?_
 rintro⟨i,v⟩ hi
 dsimp only at hi ⊢
 have hfl:(fltR (d.take i) k).length<=i:=Nat.le_trans (List.length_filter_le _ _) (List.length_take_le _ _)
 have hfm:((fltR (d.take i) k).map entA).length=(fltR (d.take i) k).length:=llm _
 repeat' first|refine Vz ?_|intro _
 refine ac_cond (fun hlt=>?_) (fun hlt=>?_)
 ·have hil:i < d.length:=by omega
  have htk:d.take (i + 1)=d.take i++[d[i]]:=List.take_succ_eq_append_getElem hil
  repeat' first|refine Vz ?_|intro _
  refine ac_cond (fun h=>?_) (fun h=>?_)
  ·have e1:(fltR (d.take (i + 1)) k).map entA=(fltR (d.take i) k).map entA++[entA d[i]]:=by
    unfold fltR
    rw [htk,List.filter_append,List.filter_cons,if_pos (dT h),List.filter_nil,List.map_append]
    rfl
   repeat' first|refine Vz ?_|intro _
   refine al_append (fun v'=>?_)
   repeat' first|refine Vz ?_|intro _
   rw [<- e1]
   refine ae_round (i + 1,v') ⟨rfl,rfl,rfl,rfl,trivial⟩ ?_ hil (by dsimp only;omega)
   exact sbl
  ·have e1:fltR (d.take (i + 1)) k=fltR (d.take i) k:=by
    unfold fltR
    rw [htk,List.filter_append,List.filter_cons,if_neg (by rw [dZ h];decide),List.filter_nil,List.append_nil]
   repeat' first|refine Vz ?_|intro _
   rw [<- e1]
   refine ae_round (i + 1,v) ⟨rfl,rfl,rfl,rfl,trivial⟩ ?_ hil (by dsimp only;omega)
   exact sbl
 ·obtain rfl:i=d.length:=by omega
  simp only [List.take_length] at hfl hfm ⊢
  repeat' first|refine Vz ?_|intro _
  refine reI ?_
  rw [hm,hfm,show decide (((fltR d k).length:Int) < (d.length:Int))=decide ((fltR d k).length < d.length) from decide_eq_decide.2 (by omega)]
  simp only [outOf]
  exact ImpR.imp⟩
end Go.Proofs.YtlkkekpcofjbeaaGreatDoor

namespace Go.Proofs.YtlkkekpcofjbeaaGreatDoor
open Go Go.RowKit Tw Av
instance fnBKey {a c:Bs}:Ans Tryz.prog GL 171 [str a,str c] True (str (balK a c)):=⟨fun _=>by
 refine qE Tryz.func171 rfl Tryz.ntmps171 rfl (fun _ hs=>?_)
 repeat' first|refine Vz ?_|intro _
 refine reE ?_
 rfl⟩
instance fnBTotal {c:Bs}:Ans Tryz.prog GL 170 [str c] True (str (totK c)):=⟨fun _=>by
 refine qE Tryz.func170 rfl Tryz.ntmps170 rfl (fun _ hs=>?_)
 repeat' first|refine Vz ?_|intro _
 refine reE ?_
 rfl⟩
instance fnRBKey {a c:Bs}:Ans Tryz.prog GL 32 [str a,str c] True (str (balK a c)):=⟨fun _=>by
 refine qE Tryz.func32 rfl Tryz.ntmps32 rfl (fun _ hs=>?_)
 repeat' first|refine Vz ?_|intro _
 refine reE ?_
 rfl⟩
instance fnRBTotal {c:Bs}:Ans Tryz.prog GL 39 [str c] True (str (totK c)):=⟨fun _=>by
 refine qE Tryz.func39 rfl Tryz.ntmps39 rfl (fun _ hs=>?_)
 repeat' first|refine Vz ?_|intro _
 refine reE ?_
 rfl⟩
instance fnBGet {d:List Ent}{k:Bs}{xs:List AV}{id:Option Value}[hx:Ents xs d]:Ans Tryz.prog GL 225 [.agg 1 [.sl 2 xs id],str k] (DOk d) (widA (getW d k)):=⟨fun hd=>by
 have hv:(valE d k).length<=1000000000:=Nat.le_trans (hd.val k) (by decide)
 refine qE Tryz.func225 rfl Tryz.ntmps225 rfl (fun _ hs=>?_)
 repeat' first|refine Vz ?_|intro _
 unfold getW
 by_cases h:(valE d k).length=32
 ·simp only [if_pos h]
  repeat' first|refine Zz ?_|intro _
  refine reE ?_
  rfl
 ·simp only [if_neg h]
  repeat' first|refine Zz ?_|intro _
  refine reE ?_
  rfl⟩
instance fnRBGet {d:List Ent}{k:Bs}{xs:List AV}{id:Option Value}[hx:Ents xs d]:Ans Tryz.prog GL 31 [.sl 2 xs id,str k] (DOk d) (widA (getW d k)):=⟨fun hd=>by
 have hv:(valE d k).length<=1000000000:=Nat.le_trans (hd.val k) (by decide)
 refine qE Tryz.func31 rfl Tryz.ntmps31 rfl (fun _ hs=>?_)
 repeat' first|refine Vz ?_|intro _
 unfold getW
 by_cases h:(valE d k).length=32
 ·simp only [if_pos h]
  repeat' first|refine Zz ?_|intro _
  refine reE ?_
  rfl
 ·simp only [if_neg h]
  repeat' first|refine Zz ?_|intro _
  refine reE ?_
  rfl⟩
instance fnBBalance {d:List Ent}{a c:Bs}{xs:List AV}{id:Option Value}[hx:Ents xs d]:Ans Tryz.prog GL 167 [.agg 1 [.sl 2 xs id],str a,str c] (DOk d) (widA (getW d (balK a c))):=⟨fun hd=>by
 refine qE Tryz.func167 rfl Tryz.ntmps167 rfl (fun _ hs=>?_)
 repeat' first|refine Vz ?_|intro _
 refine reE ?_
 rfl⟩
instance fnRBBalance {d:List Ent}{a c:Bs}{xs:List AV}{id:Option Value}[hx:Ents xs d]:Ans Tryz.prog GL 13 [.sl 2 xs id,str a,str c] (DOk d) (widA (getW d (balK a c))):=⟨fun hd=>by
 refine qE Tryz.func13 rfl Tryz.ntmps13 rfl (fun _ hs=>?_)
 repeat' first|refine Vz ?_|intro _
 refine reE ?_
 rfl⟩
instance fnRBSupply {d:List Ent}{c:Bs}{xs:List AV}{id:Option Value}[hx:Ents xs d]:Ans Tryz.prog GL 37 [.sl 2 xs id,str c] (DOk d) (widA (getW d (totK c))):=⟨fun hd=>by
 refine qE Tryz.func37 rfl Tryz.ntmps37 rfl (fun _ hs=>?_)
 repeat' first|refine Vz ?_|intro _
 refine reE ?_
 rfl⟩
set_option maxHeartbeats 1000000 in
instance fnBMay {c:Bs}{n:Wd}{l:List Bs}{xs:List AV}{id:Option Value}[hx:Strs xs l]:Ans Tryz.prog GL 165 [str c,widA n,.sl 1 xs id] True (boo (l.all nameB && (dnmB c && decide (n.n≠0)))):=⟨fun _=>by
 have h:=hx.out
 subst h
 have hm:(l.map str).length=l.length:=llm _
 refine qE Tryz.func165 rfl Tryz.ntmps165 rfl (fun _ hs=>?_)
 refine ac_bnd 2 (fun hb=>?_)
 have hb:=maxLen_le hb
 repeat' first|refine Vz ?_|intro _
 rename_i g4
 refine ac_loop (α:=Nat) (fun i=>[(0,str c),(4,ptr g4),(9,.sl 1 (l.map str) id),(10,int (l.map str).length),(11,int i)]) (fun i=>[.var g4 45 (widA n)]) (fun i=>i<=l.length/\∀ j,(hj:j < l.length)->j < i->nameB l[j]=true) (fun i=>l.length - i) 0 ⟨rfl,rfl,rfl,rfl,rfl,trivial⟩ slr ⟨Nat.zero_le _,fun _ _ h=>absurd h (by omega)⟩ ?_
 rintro i ⟨hi,hall⟩
 repeat' first|refine Vz ?_|intro _
 refine ac_cond (fun hlt=>?_) (fun hlt=>?_)
 ·have hil:i < l.length:=by omega
  repeat' first|refine Vz ?_|intro _
  refine ac_cond (fun h=>?_) (fun h=>?_)
  ·have hb:nameB l[i]=false:=dZ h
   repeat' first|refine Vz ?_|intro _
   refine reE ?_
   have:l.all nameB=false:=List.all_eq_false.2 ⟨_,List.getElem_mem hil,by rw [hb];decide⟩
   rw [this]
   rfl
  ·have hb:nameB l[i]=true:=dT (Classical.not_not.1 h)
   repeat' first|refine Vz ?_|intro _
   refine ae_round (i + 1) ⟨rfl,rfl,rfl,rfl,rfl,trivial⟩ slr ⟨hil,fun j hj h=>?_⟩ (by omega)
   by_cases hj2:j < i
   ·exact hall j hj hj2
   ·obtain rfl:j=i:=by omega
    exact hb
 ·obtain rfl:i=l.length:=by omega
  have ht:l.all nameB=true:=List.all_eq_true.2 fun x hx=>by
   obtain⟨j,hj,rfl⟩:=List.getElem_of_mem hx
   exact hall j hj hj
  rw [ht,Bool.true_and]
  repeat' first|refine Vz ?_|intro _
  cases h2:dnmB c
  ·repeat' first|refine Zz ?_|intro _
   refine reE ?_
   rfl
  ·repeat' first|refine Zz ?_|intro _
   refine reE ?_
   rfl⟩
abbrev dSl (d:List Ent):AV:=.sl 2 (d.map entA) none
instance fnRBSet {d:List Ent}{k:Bs}{n:Wd}{xs:List AV}{id:Option Value}[hx:Ents xs d]:Ans Tryz.prog GL 75 [.sl 2 xs id,str k,widA n] (DOk d) (.tup [dSl (setR k n.n d).1,int (setR k n.n d).2]):=⟨fun hd=>by
 refine qE Tryz.func75 rfl Tryz.ntmps75 rfl (fun _ hs=>?_)
 repeat' first|refine Vz ?_|intro _
 rw [wd_z]
 unfold setR
 by_cases h:n.n=0
 ·rw [if_pos h]
  repeat' first|refine Zz ?_|intro _
  refine reE ?_
  rfl
 ·rw [if_neg h]
  repeat' first|refine Zz ?_|intro _
  refine reE ?_
  rfl⟩
theorem setR_dok {d:List Ent}{k:Bs}{n:Nat}(h:DOk d):DOk (setR k n d).1:=by
 unfold setR
 split
 ·exact h.drp _
 ·exact putR_dok h
theorem putR_nil {d:List Ent}{k v:Bs}(h:(putR d k v).2≠0):(putR d k v).1=[]:=by
 unfold putR at h ⊢
 split
 ·rename_i h1
  rw [if_pos h1] at h
  exact absurd rfl h
 ·rfl
theorem setR_nil {d:List Ent}{k:Bs}{n:Nat}(h:(setR k n d).2≠0):(setR k n d).1=[]:=by
 unfold setR at h ⊢
 split
 ·rename_i h1
  rw [if_pos h1] at h
  exact absurd rfl h
 ·rename_i h1
  rw [if_neg h1] at h
  exact putR_nil h
theorem nil_imp (n:Int):Imp (outOf [.lit (.slice none 0 0),int n]) (.tup [dSl [],int n]):=(inferInstance:ImpR (.tup [.lit (.slice none 0 0),int n]) (.tup [.sl 2 [] none,int n])).imp
instance fnRBTwo {d:List Ent}{a b:Bs}{n m:Wd}{xs:List AV}{id:Option Value}[hx:Ents xs d]:Ans Tryz.prog GL 38 [.sl 2 xs id,str a,widA n,str b,widA m] (DOk d) (.tup [dSl (thenR (setR a n.n) (setR b m.n) d).1,int (thenR (setR a n.n) (setR b m.n) d).2]):=⟨fun hd=>by
 refine qE Tryz.func38 rfl Tryz.ntmps38 rfl (fun _ hs=>?_)
 repeat' first|refine Vz ?_|intro _
 unfold thenR
 have h2:=setR_dok (k:=a) (n:=n.n) hd
 by_cases h:(setR a n.n d).2=0
 ·rw [if_pos h]
  repeat' first|refine Zz ?_|intro _
  by_cases h3:(setR b m.n (setR a n.n d).1).2=0
  ·repeat' first|refine Zz ?_|intro _
   refine reE ?_
   rw [h3]
   rfl
  ·repeat' first|refine Zz ?_|intro _
   refine reI ?_
   rw [setR_nil h3]
   exact nil_imp _
 ·rw [if_neg h]
  repeat' first|refine Zz ?_|intro _
  refine reI ?_
  rw [setR_nil h]
  exact nil_imp _⟩

theorem wIs_t {n:Nat}(h:wIs n=true):n < 115792089237316195423570985008687907853269984665640564039457584007913129639936:=of_decide_eq_true h
attribute [local irreducible] nameB dnmB wIs
set_option maxHeartbeats 2000000 in
instance fnRBMint {d:List Ent}{a c:Bs}{n:Wd}{xs:List AV}{id:Option Value}[hx:Ents xs d]:Ans Tryz.prog GL 15 [.sl 2 xs id,str a,str c,widA n] (DOk d) (.tup [dSl (mintR d a c n).1,int (mintR d a c n).2]):=⟨fun hd=>by
 rw [mint_eq hd]
 refine qE Tryz.func15 rfl Tryz.ntmps15 rfl (fun _ hs=>?_)
 repeat' first|refine Zz ?_|intro _
 unfold mintQ
 by_cases h1:nameB a=false
 ·rw [if_pos (.inl h1),h1]
  repeat' first|refine Zz ?_|intro _
  refine reI ?_
  exact nil_imp _
 have h1':nameB a=true:=by simpa using h1
 by_cases h2:dnmB c=false
 ·rw [if_pos (.inr (.inl h2)),h1',h2]
  repeat' first|refine Zz ?_|intro _
  refine reI ?_
  exact nil_imp _
 have h2':dnmB c=true:=by simpa using h2
 rw [h1',h2']
 repeat' first|refine Zz ?_|intro _
 rw [wd_z]
 by_cases h3:n.n=0
 ·rw [if_pos (.inr (.inr h3))]
  repeat' first|refine Zz ?_|intro _
  refine reI ?_
  exact nil_imp _
 rw [if_neg (by rintro (h|h|h);exact absurd h (by decide);exact absurd h (by decide);exact h3 h)]
 repeat' first|refine Zz ?_|intro _
 cases h4:wIs ((getW d (totK c)).n + n.n)
 ·rw [if_pos (.inl rfl)]
  repeat' first|refine Zz ?_|intro _
  refine reI ?_
  exact nil_imp _
 repeat' first|refine Zz ?_|intro _
 cases h5:wIs ((getW d (balK a c)).n + n.n)
 ·rw [if_pos (.inr rfl)]
  repeat' first|refine Zz ?_|intro _
  refine reI ?_
  exact nil_imp _
 rw [if_neg (by decide)]
 repeat' first|refine Zz ?_|intro _
 refine reE ?_
 rw [wOf_n (wIs_t h4),wOf_n (wIs_t h5)]
 rfl⟩
end Go.Proofs.YtlkkekpcofjbeaaGreatDoor

namespace Go.Proofs.YtlkkekpcofjbeaaGreatDoor
open Go Go.RowKit Tw Av
def Does (f:FuncId)(cs:List Value)(m:List Av.Piece)(R:List Ent->List Ent × Int):Prop:=∀ d,DOk d->Av.Spec Tryz.prog GL f (dA d::cs.map .lit) m fun u m'=>u=.tup [dA (R d).1,int (R d).2]/\m'=m
theorem more_spec {k:Bs}{n:Wd}:Av.Spec Tryz.prog GL 169 [str k,widA n] [] fun u m=>∃ g1 g2,u=fnv 226 [.pointer (some ⟨g1,0,none⟩),.pointer (some ⟨g2,0,none⟩)]/\m=[.var g2 45 (widA n),.var g1 9 (str k)]:=by
 refine qE Tryz.func169 rfl Tryz.ntmps169 rfl (fun _ hs=>?_)
 repeat' first|refine Vz ?_|intro _
 rename_i g1 g2
 refine al_makeFunc (vs:=[.pointer (some ⟨g1,0,none⟩),.pointer (some ⟨g2,0,none⟩)]) ?_
 repeat' first|refine Vz ?_|intro _
 exact reK _ ⟨g1,g2,rfl,rfl⟩ slr
theorem less_spec {k:Bs}{n:Wd}:Av.Spec Tryz.prog GL 172 [str k,widA n] [] fun u m=>∃ g1 g2,u=fnv 228 [.pointer (some ⟨g1,0,none⟩),.pointer (some ⟨g2,0,none⟩)]/\m=[.var g2 45 (widA n),.var g1 9 (str k)]:=by
 refine qE Tryz.func172 rfl Tryz.ntmps172 rfl (fun _ hs=>?_)
 repeat' first|refine Vz ?_|intro _
 rename_i g1 g2
 refine al_makeFunc (vs:=[.pointer (some ⟨g1,0,none⟩),.pointer (some ⟨g2,0,none⟩)]) ?_
 repeat' first|refine Vz ?_|intro _
 exact reK _ ⟨g1,g2,rfl,rfl⟩ slr
theorem dnil_imp (n:Int):Imp (outOf [.agg 1 [.lit (.slice none 0 0)],int n]) (.tup [dA [],int n]):=(inferInstance:ImpR (.tup [.agg 1 [.lit (.slice none 0 0)],int n]) (.tup [.agg 1 [.sl 2 [] none],int n])).imp
attribute [local irreducible] wIs
set_option maxHeartbeats 1000000 in
theorem more_does {k:Bs}{n:Wd}{g1 g2:Nat}:Does 226 [.pointer (some ⟨g1,0,none⟩),.pointer (some ⟨g2,0,none⟩)] [.var g2 45 (widA n),.var g1 9 (str k)] (moreR k n):=fun d hd=>by
 show Av.Spec _ _ _ [dA d,ptr g1,ptr g2] _ _
 refine qE Tryz.func226 rfl Tryz.ntmps226 rfl (fun _ hs=>?_)
 repeat' first|refine Zz ?_|intro _
 unfold moreR
 cases h:wIs ((getW d k).n + n.n)
 ·rw [if_neg (by decide)]
  repeat' first|refine Zz ?_|intro _
  refine reIKm _ _ (dnil_imp _) ⟨rfl,rfl⟩ ?_
  exact sbl
 ·rw [if_pos rfl]
  repeat' first|refine Zz ?_|intro _
  refine reIKm _ _ (Imp.of_eq ?_) ⟨rfl,rfl⟩ ?_
  ·rw [wOf_n (wIs_t h)]
   rfl
  ·exact sbl
set_option maxHeartbeats 1000000 in
theorem less_does {k:Bs}{n:Wd}{g1 g2:Nat}:Does 228 [.pointer (some ⟨g1,0,none⟩),.pointer (some ⟨g2,0,none⟩)] [.var g2 45 (widA n),.var g1 9 (str k)] (lessR k n):=fun d hd=>by
 show Av.Spec _ _ _ [dA d,ptr g1,ptr g2] _ _
 have hw:(wOf ((getW d k).n - n.n)).n=(getW d k).n - n.n:=wOf_n (Nat.lt_of_le_of_lt (Nat.sub_le _ _) (getW d k).lt)
 refine qE Tryz.func228 rfl Tryz.ntmps228 rfl (fun _ hs=>?_)
 repeat' first|refine Zz ?_|intro _
 unfold lessR
 by_cases h:(getW d k).n < n.n
 ·rw [if_pos h,dZ (Nat.not_le.2 h)]
  repeat' first|refine Zz ?_|intro _
  refine reIKm _ _ (dnil_imp _) ⟨rfl,rfl⟩ ?_
  exact sbl
 rw [if_neg h,dT (Nat.not_lt.1 h)]
 repeat' first|refine Zz ?_|intro _
 rw [hw]
 by_cases h2:(getW d k).n=n.n
 ·rw [if_pos h2,dT (show (getW d k).n - n.n=0 by omega)]
  repeat' first|refine Zz ?_|intro _
  refine reIKm _ _ (Imp.of_eq rfl) ⟨rfl,rfl⟩ ?_
  exact sbl
 ·rw [if_neg h2,dZ (show ¬ (getW d k).n - n.n=0 by omega)]
  repeat' first|refine Zz ?_|intro _
  refine reIKm _ _ (Imp.of_eq ?_) ⟨rfl,rfl⟩ ?_
  ·rw [hw]
   rfl
  ·exact sbl
end Go.Proofs.YtlkkekpcofjbeaaGreatDoor

namespace Go.Proofs.YtlkkekpcofjbeaaGreatDoor
open Go Go.RowKit Tw Av
def dAt (R1 R2:List Ent->List Ent × Int)(d:List Ent):Nat->List Ent
 | 0=>d
 | 1=>(R1 d).1
 | _=>(R2 (R1 d).1).1
set_option maxHeartbeats 2000000 in
theorem does_spec {f1 f2:FuncId}[FnB Tryz.prog f1][FnB Tryz.prog f2]{cs1 cs2:List Value}{m1 m2:List Av.Piece}{R1 R2:List Ent->List Ent × Int}{d:List Ent}(h1:Does f1 cs1 m1 R1)(h2:Does f2 cs2 m2 R2)(hc1:∀ v ∈ cs1,v.oneCell'=true)(hc2:∀ v ∈ cs2,v.oneCell'=true)(hd:DOk d)(hd1:DOk (R1 d).1) :
  Av.Spec Tryz.prog GL 168 [dA d,.sl 1 [fnv f1 cs1,fnv f2 cs2] none] (m1++m2) fun u m=>u=.tup [dA (thenR R1 R2 d).1,int (thenR R1 R2 d).2]/\m=m1++m2:=by
 refine qE Tryz.func168 rfl Tryz.ntmps168 rfl (fun _ hs=>?_)
 repeat' first|refine Vz ?_|intro _
 rename_i g2 g4
 refine ac_loop (α:=Nat) (fun i=>[(2,ptr g2),(4,ptr g4),(5,int 0),(6,int 0),(9,.sl 1 [fnv f1 cs1,fnv f2 cs2] none),(10,int 2),(11,int i)]) (fun i=>[.var g4 70 (.agg 1 [.lit (.slice none 0 0)]),.var g2 70 (dA (dAt R1 R2 d i))]++(m1++m2))
  (fun i=>i<=2/\(1<=i->(R1 d).2=0)/\(2<=i->(R2 (R1 d).1).2=0)) (fun i=>2 - i) 0 ⟨rfl,rfl,rfl,rfl,rfl,rfl,rfl,trivial⟩ slr ⟨by decide,fun h=>absurd h (by decide),fun h=>absurd h (by decide)⟩ ?_
 rintro i ⟨hi,f1',f2'⟩
 rcases i with _|_|_|i
 ·repeat' first|refine Zz ?_|intro _
  refine al_callV (args:=[dA d]) (cs:=cs1) m1 ([Av.Piece.var g4 70 (.agg 1 [.lit (.slice none 0 0)]),Av.Piece.var g2 70 (dA (d))]++m2) (by rw [hs];exact h1 d hd) (fun u m' hh=>?_) (List.perm_append_comm_assoc _ _ _) (hcs:=hc1)
  obtain⟨rfl,rfl⟩:=hh
  refine al_st (fun ok w h=>h.perm (m':=[Av.Piece.var g4 70 (.agg 1 [.lit (.slice none 0 0)]),Av.Piece.var g2 70 (dA (d))]++(m'++m2)) (List.perm_append_comm_assoc _ _ _)) ?_
  by_cases he:(R1 d).2=0
  ·repeat' first|refine Zz ?_|intro _
   refine ae_as 6 (v:=int (R1 d).2) (v':=int 0) (Imp.of_eq (by rw [he])) ?_
   refine ae_round 1 ⟨rfl,rfl,rfl,rfl,rfl,rfl,rfl,trivial⟩ slr ⟨by decide,fun _=>he,fun h=>absurd h (by decide)⟩ (by decide)
  ·repeat' first|refine Zz ?_|intro _
   refine reK (m'++m2) ⟨?_,rfl⟩ ((List.sublist_cons_self _ _).trans (List.Sublist.refl _ |>.cons _))
   unfold thenR
   rw [if_neg he]
   rfl
 ·have he1:=f1' (by decide)
  repeat' first|refine Zz ?_|intro _
  refine al_callV (args:=[dA (R1 d).1]) (cs:=cs2) m2 ([Av.Piece.var g4 70 (.agg 1 [.lit (.slice none 0 0)]),Av.Piece.var g2 70 (dA ((R1 d).1))]++m1) (by rw [hs];exact h2 _ hd1) (fun u m' hh=>?_) ?_ (hcs:=hc2)
  rotate_left
  ·exact (List.perm_append_comm (l₁:=[Av.Piece.var g4 70 (.agg 1 [.lit (.slice none 0 0)]),Av.Piece.var g2 70 (dA ((R1 d).1))]++m1) (l₂:=m2)).trans lpr |> fun h=>(by rw [<- laa];exact h)
  obtain⟨rfl,rfl⟩:=hh
  refine al_st (fun ok w h=>h.perm (m':=[Av.Piece.var g4 70 (.agg 1 [.lit (.slice none 0 0)]),Av.Piece.var g2 70 (dA ((R1 d).1))]++(m1++m')) (by rw [<- laa];exact List.perm_append_comm)) ?_
  have ht:thenR R1 R2 d=R2 (R1 d).1:=by
   unfold thenR
   rw [if_pos he1]
  rw [ht]
  by_cases he:(R2 (R1 d).1).2=0
  ·repeat' first|refine Zz ?_|intro _
   refine ae_as 6 (v:=int (R2 (R1 d).1).2) (v':=int 0) (Imp.of_eq (by rw [he])) ?_
   refine ae_round 2 ⟨rfl,rfl,rfl,rfl,rfl,rfl,rfl,trivial⟩ slr ⟨by decide,fun _=>he1,fun _=>he⟩ (by decide)
  ·repeat' first|refine Zz ?_|intro _
   refine reK (m1++m') ⟨rfl,rfl⟩ ?_
   exact (List.Sublist.refl _ |>.cons _).cons _
 ·have he1:=f1' (by decide)
  have he2:=f2' (by decide)
  have ht:thenR R1 R2 d=R2 (R1 d).1:=by
   unfold thenR
   rw [if_pos he1]
  rw [ht,he2]
  repeat' first|refine Zz ?_|intro _
  refine reK (m1++m2) ⟨rfl,rfl⟩ ?_
  exact (List.Sublist.refl _ |>.cons _).cons _
 ·omega
end Go.Proofs.YtlkkekpcofjbeaaGreatDoor
