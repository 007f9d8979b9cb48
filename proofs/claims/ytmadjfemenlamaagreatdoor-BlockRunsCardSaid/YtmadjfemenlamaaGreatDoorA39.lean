/- chapter 18, transactions as bytes, in plain words: what is read is within bounds; what was written is read; short texts are none -/
import Derived.Test.YtmadjfemenlamaaGreatDoorA27
import Derived.Test.YtmadjfemenlamaaGreatDoorA28
import Derived.Test.YtmadjfemenlamaaGreatDoorA29
import Derived.Test.YtmadjfemenlamaaGreatDoorA32
import Derived.Test.YtmadjfemenlamaaGreatDoorA34
import Derived.Test.YtmadjfemenlamaaGreatDoorA37
import Derived.Test.YtmadjfemenlamaaGreatDoorA38
namespace Go.Proofs.YtmadjfemenlamaaGreatDoor
open Go Go.RowKit Tw Av
section
variable {e:List Ent} {q:Int} {s k d:Bs} {a:Wd} {f g:Bs} {h t:Int} {g1 g2 g3:Nat} {z:Bs}
abbrev gE (g:Nat)(e:List Ent):Av.Piece:=.var g 35 (dA e)
abbrev gP (g:Nat)(q:Int)(s k d:Bs)(a:Wd)(f g':Bs)(h t:Int):Av.Piece:=.var g 62 (.agg 12 [int q,str s,str k,.agg 7 [str d,widA a,str f,str g'],int h,int t])
theorem send1 (hd:DOk e):Goes 254 [.pointer (some ⟨g1,0,none⟩)] [gP g2 q s k d a f g h t,gE g1 e] (mvA d a f g) (burnR e f d a):=by
 show Av.Spec _ _ _ [mvA d a f g,ptr g1] _ _
 refine spec_enter Tryz.func254 rfl Tryz.ntmps254 rfl (fun _ hs=>?_)
 repeat' first|refine Zz ?_|intro _
 refine reK _ ⟨rfl,rfl⟩ ?_
 exact sbl
theorem send2 (hd:DOk e)(hs1:s.length≤1000000000):Goes 256 [.pointer (some ⟨g1,0,none⟩),.pointer (some ⟨g2,0,none⟩)] [gP g2 q s k d a f g h t,gE g1 e] (mvA d a f g) (moveR e f (escB s) d a):=by
 show Av.Spec _ _ _ [mvA d a f g,ptr g1,ptr g2] _ _
 refine spec_enter Tryz.func256 rfl Tryz.ntmps256 rfl (fun _ hs=>?_)
 repeat' first|refine Zz ?_|intro _
 refine reK _ ⟨rfl,rfl⟩ ?_
 exact sbl
theorem recv1 (hd:DOk e)(hs1:k.length≤1000000000):Goes 263 [.pointer (some ⟨g1,0,none⟩),.pointer (some ⟨g2,0,none⟩),.pointer (some ⟨g3,0,none⟩)] [.var g3 9 (str z),gP g2 q s k d a f g h t,gE g1 e] (mvA d a f g) (moveR e (escB k) g z a):=by
 show Av.Spec _ _ _ [mvA d a f g,ptr g1,ptr g2,ptr g3] _ _
 refine spec_enter Tryz.func263 rfl Tryz.ntmps263 rfl (fun _ hs=>?_)
 repeat' first|refine Zz ?_|intro _
 refine reK _ ⟨rfl,rfl⟩ ?_
 exact sbl
theorem recv2 (hd:DOk e):Goes 264 [.pointer (some ⟨g1,0,none⟩),.pointer (some ⟨g3,0,none⟩)] [.var g3 9 (str z),gP g2 q s k d a f g h t,gE g1 e] (mvA d a f g) (mintR e g z a):=by
 show Av.Spec _ _ _ [mvA d a f g,ptr g1,ptr g3] _ _
 refine spec_enter Tryz.func264 rfl Tryz.ntmps264 rfl (fun _ hs=>?_)
 repeat' first|refine Zz ?_|intro _
 refine reK _ ⟨rfl,rfl⟩ ?_
 exact sbl
end
theorem or_cond {c:Bool}{α:Type}{a b:α}:(if true=false∨c=false then a else b)=if c=false then a else b:=by cases c <;> rfl
theorem arr_len {q:Int}{s k d:Bs}{a:Wd}{f g:Bs}{h t:Int}(h1:d.length≤400000000)(h2:k.length≤400000000):(arrP ⟨q,s,k,d,a,f,g,h,t⟩).length≤1000000000:=by
 unfold arrP
 split
 ·rw [List.length_drop]
  show d.length - _≤_
  omega
 ·rw [List.length_append,List.length_append]
  show k.length + 1 + d.length≤_
  omega
set_option maxHeartbeats 1000000 in
instance fnTSend {e:List Ent}{q:Int}{s k d:Bs}{a:Wd}{f g:Bs}{h t:Int}{xs:List AV}[hx:Ents xs e]:Ans Tryz.prog GL 160 [.agg 1 [.sl 2 xs none],.agg 12 [int q,str s,str k,.agg 7 [str d,widA a,str f,str g],int h,int t]] (DOk e∧s.length≤1000000000∧d.length≤1000000000) (.tup [dA (sendR e ⟨q,s,k,d,a,f,g,h,t⟩).1,int (sendR e ⟨q,s,k,d,a,f,g,h,t⟩).2]):=⟨fun hp=>by
 obtain⟨hd,hs1,hd1⟩:=hp
 have h':=hx.out
 subst h'
 refine spec_enter Tryz.func160 rfl Tryz.ntmps160 rfl (fun _ hs=>?_)
 repeat' first|refine Zz ?_|intro _
 rename_i g1 g2 g3
 refine al_makeFunc (vs:=[.pointer (some ⟨g1,0,none⟩)]) ?_
 refine al_makeFunc (vs:=[.pointer (some ⟨g1,0,none⟩),.pointer (some ⟨g2,0,none⟩)]) ?_
 refine al_callK (args:=[.agg 12 [int q,str s,str k,.agg 7 [str d,widA a,str f,str g],int h,int t],fnv 254 [.pointer (some ⟨g1,0,none⟩)],fnv 256 [.pointer (some ⟨g1,0,none⟩),.pointer (some ⟨g2,0,none⟩)]]) [gP g2 q s k d a f g h t,gE g1 e] [.var g3 35 (.agg 1 [.lit (.slice none 0 0)])] (by rw [hs];exact tdoes_spec (send1 hd) (send2 hd hs1) (by simp [Value.oneCell']) (by simp [Value.oneCell']) ⟨hs1,hd1⟩ (R:=sendR e ⟨q,s,k,d,a,f,g,h,t⟩) rfl) (fun u m1 hh=>?_) (List.perm_append_comm (l₁:=[Av.Piece.var g3 35 (.agg 1 [.lit (.slice none 0 0)])]) (l₂:=[gP g2 q s k d a f g h t,gE g1 e]))
 obtain⟨rfl,rfl⟩:=hh
 repeat' first|refine Zz ?_|intro _
 refine reE ?_
 rfl⟩
set_option maxHeartbeats 1000000 in
instance fnTRecv {e:List Ent}{q:Int}{s k d:Bs}{a:Wd}{f g:Bs}{h t:Int}{xs:List AV}[hx:Ents xs e]:Ans Tryz.prog GL 170 [.agg 1 [.sl 2 xs none],.agg 12 [int q,str s,str k,.agg 7 [str d,widA a,str f,str g],int h,int t]] (DOk e∧s.length≤400000000∧d.length≤400000000∧k.length≤400000000) (.tup [dA (recvR e ⟨q,s,k,d,a,f,g,h,t⟩).1,int (recvR e ⟨q,s,k,d,a,f,g,h,t⟩).2]):=⟨fun hp=>by
 obtain⟨hd,hs1,hd1,hk1⟩:=hp
 have h':=hx.out
 subst h'
 have hal:(arrP ⟨q,s,k,d,a,f,g,h,t⟩).length≤1000000000:=arr_len hd1 hk1
 refine spec_enter Tryz.func170 rfl Tryz.ntmps170 rfl (fun _ hs=>?_)
 repeat' first|refine Zz ?_|intro _
 generalize hz:arrP ⟨q,s,k,d,a,f,g,h,t⟩=z at hal ⊢
 repeat' first|refine Zz ?_|intro _
 rename_i g1 g2 g3 g4
 have hR:recvR e ⟨q,s,k,d,a,f,g,h,t⟩=if denB z=false∨chkP ⟨q,s,k,d,a,f,g,h,t⟩=false then ([],1) else if homeP ⟨q,s,k,d,a,f,g,h,t⟩=true then moveR e (escB k) g z a else mintR e g z a:=by
  unfold recvR
  rw [hz]
 rw [hR]
 cases hb:denB z
 ·rw [if_pos (.inl rfl)]
  repeat' first|refine Zz ?_|intro _
  refine reI ?_
  exact dnil_imp _
 rw [or_cond]
 repeat' first|refine Zz ?_|intro _
 refine al_makeFunc (vs:=[.pointer (some ⟨g1,0,none⟩),.pointer (some ⟨g2,0,none⟩),.pointer (some ⟨g4,0,none⟩)]) ?_
 refine al_makeFunc (vs:=[.pointer (some ⟨g1,0,none⟩),.pointer (some ⟨g4,0,none⟩)]) ?_
 refine al_callK (args:=[.agg 12 [int q,str s,str k,.agg 7 [str d,widA a,str f,str g],int h,int t],fnv 263 [.pointer (some ⟨g1,0,none⟩),.pointer (some ⟨g2,0,none⟩),.pointer (some ⟨g4,0,none⟩)],fnv 264 [.pointer (some ⟨g1,0,none⟩),.pointer (some ⟨g4,0,none⟩)]]) [.var g4 9 (str z),gP g2 q s k d a f g h t,gE g1 e] [.var g3 35 (.agg 1 [.lit (.slice none 0 0)])] (by rw [hs];exact tdoes_spec (recv1 hd (by omega)) (recv2 hd) (by simp [Value.oneCell']) (by simp [Value.oneCell']) ⟨by omega,by omega⟩ rfl) (fun u m1 hh=>?_) (List.Perm.cons _ (List.perm_append_comm (l₁:=[Av.Piece.var g3 35 (.agg 1 [.lit (.slice none 0 0)])]) (l₂:=[gP g2 q s k d a f g h t,gE g1 e])))
 obtain⟨rfl,rfl⟩:=hh
 repeat' first|refine Zz ?_|intro _
 refine reE ?_
 rfl⟩
set_option maxHeartbeats 1000000 in
instance fnR17Send {e:List Ent}{q:Int}{s k d:Bs}{a:Wd}{f g:Bs}{h t:Int}{xs:List AV}{id:Option Value}[hx:Ents xs e]:Ans Tryz.prog GL 204 [.sl 2 xs id,.agg 12 [int q,str s,str k,.agg 7 [str d,widA a,str f,str g],int h,int t]] (DOk e∧s.length≤1000000000∧k.length≤1000000000∧d.length≤1000000000∧f.length≤1000000000∧g.length≤1000000000) (.tup [dSl (sendR e ⟨q,s,k,d,a,f,g,h,t⟩).1,int (sendR e ⟨q,s,k,d,a,f,g,h,t⟩).2]):=⟨fun hp=>by
 obtain⟨hd,hs1,hk1,hd1,hf1,hg1⟩:=hp
 show Av.Spec _ _ _ _ _ fun v m'=>v=.tup [dSl (if chkP ⟨q,s,k,d,a,f,g,h,t⟩=false then ([],1) else if homeP ⟨q,s,k,d,a,f,g,h,t⟩=true then burnR e f d a else moveR e f (escB s) d a).1,int (if chkP ⟨q,s,k,d,a,f,g,h,t⟩=false then ([],1) else if homeP ⟨q,s,k,d,a,f,g,h,t⟩=true then burnR e f d a else moveR e f (escB s) d a).2]∧m'=[]
 refine spec_enter Tryz.func204 rfl Tryz.ntmps204 rfl (fun _ hs=>?_)
 repeat' first|refine Zz ?_|intro _
 unfold chkN
 cases hc:chkP ⟨q,s,k,d,a,f,g,h,t⟩
 ·rw [if_neg (show ¬ false=true by decide),if_pos rfl,decide_eq_true (show (1:Int)≠0 by decide)]
  repeat' first|refine Zz ?_|intro _
  refine reI ?_
  exact nil_imp _
 rw [if_pos rfl,if_neg (show ¬ true=false by decide),decide_eq_false (show ¬ (0:Int)≠0 by decide)]
 repeat' first|refine Zz ?_|intro _
 cases hh:homeP ⟨q,s,k,d,a,f,g,h,t⟩
 ·rw [if_neg (show ¬ false=true by decide)]
  repeat' first|refine Zz ?_|intro _
  refine reE ?_
  rfl
 ·rw [if_pos rfl]
  repeat' first|refine Zz ?_|intro _
  refine reE ?_
  rfl⟩
set_option maxHeartbeats 1000000 in
instance fnR17Recv {e:List Ent}{q:Int}{s k d:Bs}{a:Wd}{f g:Bs}{h t:Int}{xs:List AV}{id:Option Value}[hx:Ents xs e]:Ans Tryz.prog GL 207 [.sl 2 xs id,.agg 12 [int q,str s,str k,.agg 7 [str d,widA a,str f,str g],int h,int t]] (DOk e∧s.length≤400000000∧k.length≤400000000∧d.length≤400000000∧f.length≤400000000∧g.length≤400000000) (.tup [dSl (recvR e ⟨q,s,k,d,a,f,g,h,t⟩).1,int (recvR e ⟨q,s,k,d,a,f,g,h,t⟩).2]):=⟨fun hp=>by
 obtain⟨hd,hs1,hk1,hd1,hf1,hg1⟩:=hp
 have hal:(arrP ⟨q,s,k,d,a,f,g,h,t⟩).length≤1000000000:=arr_len hd1 hk1
 refine spec_enter Tryz.func207 rfl Tryz.ntmps207 rfl (fun _ hs=>?_)
 repeat' first|refine Zz ?_|intro _
 generalize hz:arrP ⟨q,s,k,d,a,f,g,h,t⟩=z at hal ⊢
 have hR:recvR e ⟨q,s,k,d,a,f,g,h,t⟩=if denB z=false∨chkP ⟨q,s,k,d,a,f,g,h,t⟩=false then ([],1) else if homeP ⟨q,s,k,d,a,f,g,h,t⟩=true then moveR e (escB k) g z a else mintR e g z a:=by
  unfold recvR
  rw [hz]
 rw [hR]
 repeat' first|refine Zz ?_|intro _
 unfold chkN
 cases hc:chkP ⟨q,s,k,d,a,f,g,h,t⟩
 ·rw [if_neg (show ¬ false=true by decide),if_pos (.inr rfl),decide_eq_true (show (1:Int)≠0 by decide)]
  repeat' first|refine Zz ?_|intro _
  refine reI ?_
  exact nil_imp _
 rw [if_pos rfl,decide_eq_false (show ¬ (0:Int)≠0 by decide)]
 cases hb:denB z
 ·rw [if_pos (.inl rfl)]
  repeat' first|refine Zz ?_|intro _
  refine reI ?_
  exact nil_imp _
 rw [or_cond,if_neg (show ¬ true=false by decide)]
 repeat' first|refine Zz ?_|intro _
 cases hh:homeP ⟨q,s,k,d,a,f,g,h,t⟩
 ·rw [if_neg (show ¬ false=true by decide)]
  repeat' first|refine Zz ?_|intro _
  refine reE ?_
  rfl
 ·rw [if_pos rfl]
  repeat' first|refine Zz ?_|intro _
  refine reE ?_
  rfl⟩
end Go.Proofs.YtmadjfemenlamaaGreatDoor

namespace Go.Proofs.YtmadjfemenlamaaGreatDoor
open Go Go.RowKit Tw Av
theorem rcd_nil:rcdE []=10:=by rfl
theorem red_nil:redE []=10:=by rfl
theorem kn_nil:knE []=10:=by rfl
theorem valE_no {d:List Ent}{k:Bs}(h:(gO d k).isSome=false):valE d k=[]:=by
 unfold valE
 cases hg:gO d k with
 | none=>rfl
 | some v=>rw [hg] at h;cases h
theorem rcd_zero {s:Bs}(h:rcdE s≠0):rcdV s=zeroC:=by
 unfold rcdE at h
 unfold rcdV
 split at h
 ·exact (h rfl).elim
 ·rename_i hn
  rw [if_neg hn]
theorem red_zero {s:Bs}(h:redE s≠0):redV s=zeroE:=by
 unfold redE at h
 unfold redV
 split at h
 ·exact (h rfl).elim
 ·rename_i hn
  rw [if_neg hn]
theorem rcd_may {s:Bs}(h:rcdE s=0):mayC (rcdV s)=true:=by
 unfold rcdE at h
 unfold rcdV
 split at h
 ·rename_i hn
  rw [if_pos hn]
  unfold rcOk at hn
  rw [Bool.and_eq_true,Bool.and_eq_true] at hn
  exact hn.2.2
 ·cases h
theorem rcd_or (s:Bs):mayC (rcdV s)=true∨rcdV s=zeroC:=by
 by_cases h:rcdE s=0
 ·exact .inl (rcd_may h)
 ·exact .inr (rcd_zero h)
theorem lat_mem {l:List Sta}(h:l≠[]):latC l ∈ l:=by
 rcases List.eq_nil_or_concat l with rfl|⟨l',a,rfl⟩
 ·exact (h rfl).elim
 ·unfold latC
  simp
structure CliF (x:Cli):Prop where
 ok:CliOk x
 w:CliW x
 r:Rise x.l
 n:x.l.length≤32
theorem zero_f:CliF zeroC:=⟨⟨by decide,by decide,by decide,by decide⟩,⟨by decide,by decide,fun s h=>by cases h⟩,List.Pairwise.nil,by decide⟩
theorem may_f {x:Cli}(h:mayC x=true):CliF x:=by
 obtain⟨⟨h1,h2,h3,h4,h5⟩,h6⟩:=all_iff.1 h
 have hc:=may_chk h
 have hb:∀ s ∈ x.l,1≤s.h∧s.h≤1099511627776∧0≤s.t∧s.t≤1099511627776:=fun s hs=>by
  obtain⟨_,_,c3,c4,c5,c6⟩:=chkH_iff.1 (hc s hs)
  exact⟨c3,c4,c5,c6⟩
 have hne:x.l≠[]:=fun e=>by rw [e] at h4;simp at h4
 have hl:=hb _ (lat_mem hne)
 have step:∀ i (hi:i + 1 < x.l.length),x.l[i].h < x.l[i + 1].h∧x.l[i].t≤x.l[i + 1].t:=fun i hi=>by
  have:=h6 (i + 1) hi
  unfold mayAt at this
  rw [Bool.and_eq_true,Bool.or_eq_true] at this
  rcases this.2 with h|h
  ·simp at h
  ·rw [show x.l.getD (i + 1 - 1) zeroS=x.l[i] by simp [List.getD,show i < x.l.length by omega],show x.l.getD (i + 1) zeroS=x.l[i + 1] by simp [List.getD,hi]] at h
   unfold fol at h
   simpa using h
 have far:∀ d i (hi:i + 1 + d < x.l.length),x.l[i].h < x.l[i + 1 + d].h∧x.l[i].t≤x.l[i + 1 + d].t:=by
  intro d
  induction d with
  | zero=>exact fun i hi=>step i hi
  | succ d ih=>
   intro i hi
   have a:=ih i (by omega)
   have b:=step (i + 1 + d) (by omega)
   exact⟨Int.lt_trans a.1 b.1,Int.le_trans a.2 b.2⟩
 refine⟨⟨by omega,by omega,by omega,by omega⟩,⟨by omega,by omega,fun s hs=>by
  have:=hb s hs
  omega⟩,?_,h5⟩
 unfold Rise
 rw [List.pairwise_iff_getElem]
 intro i j hi hj hij
 have:=far (j - i - 1) i (by omega)
 simpa [show i + 1 + (j - i - 1)=j by omega] using this
theorem clF (d:List Ent)(i:Bs):CliF (clR d i):=by
 unfold clR
 rcases rcd_or (valE d (kyO [67] i)) with h|h
 ·exact may_f h
 ·rw [h]
  exact zero_f
theorem imp_cz {b:Bool}:Imp (outOf [.agg 5 [.lit (.string ⟨#[]⟩),.lit (.string ⟨#[]⟩),.lit (.int .i64 0),.lit (.bool false),.lit (.slice none 0 0)],boo b]) (.tup [cliA zeroC,boo b]):=(inferInstance:ImpR (.tup [.agg 5 [.lit (.string ⟨#[]⟩),.lit (.string ⟨#[]⟩),.lit (.int .i64 0),.lit (.bool false),.lit (.slice none 0 0)],boo b]) (.tup [.agg 5 [str [],str [],int 0,boo false,.sl 34 [] none],boo b])).imp
instance fnCoClient {d:List Ent}{i:Bs}{xs:List AV}{id:Option Value}[hx:Ents xs d]:Ans Tryz.prog GL 143 [.agg 1 [.sl 2 xs id],str i] (DOk d) (.tup [cliA (clR d i),boo (clB d i)]):=⟨fun hd=>by
 have hv:=hd.val (kyO [67] i)
 refine spec_enter Tryz.func143 rfl Tryz.ntmps143 rfl (fun _ hs=>?_)
 repeat' first|refine Zz ?_|intro _
 refine reE ?_
 rfl⟩
instance fnR18Client {d:List Ent}{i:Bs}{xs:List AV}{id:Option Value}[hx:Ents xs d]:Ans Tryz.prog GL 187 [.sl 2 xs id,str i] (DOk d) (.tup [cliA (clR d i),boo (clB d i)]):=⟨fun hd=>by
 have hv:=hd.val (kyO [67] i)
 unfold clR clB
 refine spec_enter Tryz.func187 rfl Tryz.ntmps187 rfl (fun _ hs=>?_)
 repeat' first|refine Zz ?_|intro _
 cases hg:(gO d (kyO [67] i)).isSome
 ·have hn:=valE_no hg
  rw [hn,rcd_nil,rcd_zero (by rw [rcd_nil];decide)]
  repeat' first|refine Zz ?_|intro _
  refine reI ?_
  exact imp_cz
 ·by_cases he:rcdE (valE d (kyO [67] i))=0
  ·rw [decide_eq_true he]
   repeat' first|refine Zz ?_|intro _
   rw [decide_eq_false (not_not_intro he)]
   repeat' first|refine Zz ?_|intro _
   refine reE ?_
   rfl
  ·rw [decide_eq_false he,rcd_zero he]
   repeat' first|refine Zz ?_|intro _
   rw [decide_eq_true he]
   repeat' first|refine Zz ?_|intro _
   refine reI ?_
   exact imp_cz⟩
instance fnCoEnd {d:List Ent}{k:Bs}{xs:List AV}{id:Option Value}[hx:Ents xs d]:Ans Tryz.prog GL 122 [.agg 1 [.sl 2 xs id],str k] (DOk d) (.tup [endA (redV (valE d k)),boo (decide (redE (valE d k)=0))]):=⟨fun hd=>by
 have hv:=hd.val k
 refine spec_enter Tryz.func122 rfl Tryz.ntmps122 rfl (fun _ hs=>?_)
 repeat' first|refine Zz ?_|intro _
 refine reE ?_
 rfl⟩
instance fnCoConn {d:List Ent}{i:Bs}{xs:List AV}{id:Option Value}[hx:Ents xs d]:Ans Tryz.prog GL 150 [.agg 1 [.sl 2 xs id],str i] (DOk d) (.tup [endA (enR d [75] i),boo (enB d [75] i)]):=⟨fun hd=>by
 refine spec_enter Tryz.func150 rfl Tryz.ntmps150 rfl (fun _ hs=>?_)
 repeat' first|refine Zz ?_|intro _
 refine reE ?_
 rfl⟩
instance fnCoChan {d:List Ent}{i:Bs}{xs:List AV}{id:Option Value}[hx:Ents xs d]:Ans Tryz.prog GL 71 [.agg 1 [.sl 2 xs id],str i] (DOk d) (.tup [endA (enR d [72] i),boo (enB d [72] i)]):=⟨fun hd=>by
 refine spec_enter Tryz.func71 rfl Tryz.ntmps71 rfl (fun _ hs=>?_)
 repeat' first|refine Zz ?_|intro _
 refine reE ?_
 rfl⟩
instance fnR18End {d:List Ent}{k i:Bs}{xs:List AV}{id:Option Value}[hx:Ents xs d]:Ans Tryz.prog GL 34 [.sl 2 xs id,str k,str i] (DOk d∧k.length≤1000000000) (.tup [endA (enR d k i),boo (enB d k i)]):=⟨fun hp=>by
 obtain⟨hd,hk⟩:=hp
 have hv:=hd.val (kyO k i)
 unfold enR enB
 refine spec_enter Tryz.func34 rfl Tryz.ntmps34 rfl (fun _ hs=>?_)
 repeat' first|refine Zz ?_|intro _
 cases hg:(gO d (kyO k i)).isSome
 ·have hn:=valE_no hg
  rw [hn,red_nil,red_zero (by rw [red_nil];decide)]
  repeat' first|refine Zz ?_|intro _
  refine reE ?_
  rfl
 ·by_cases he:redE (valE d (kyO k i))=0
  ·rw [decide_eq_true he]
   repeat' first|refine Zz ?_|intro _
   rw [decide_eq_false (not_not_intro he)]
   repeat' first|refine Zz ?_|intro _
   refine reE ?_
   rfl
  ·rw [decide_eq_false he,red_zero he]
   repeat' first|refine Zz ?_|intro _
   rw [decide_eq_true he]
   repeat' first|refine Zz ?_|intro _
   refine reE ?_
   rfl⟩
instance fnCoNext {d:List Ent}{i:Bs}{xs:List AV}{id:Option Value}[hx:Ents xs d]:Ans Tryz.prog GL 156 [.agg 1 [.sl 2 xs id],str i] (DOk d) (int (nxR d i)):=⟨fun hd=>by
 have hv:=hd.val (kyO [78] i)
 unfold nxR
 refine spec_enter Tryz.func156 rfl Tryz.ntmps156 rfl (fun _ hs=>?_)
 repeat' first|refine Zz ?_|intro _
 by_cases he:knE (valE d (kyO [78] i))=0
 ·rw [if_pos he,decide_eq_false (not_not_intro he)]
  repeat' first|refine Zz ?_|intro _
  refine reE ?_
  rfl
 ·rw [if_neg he,decide_eq_true he]
  repeat' first|refine Zz ?_|intro _
  refine reE ?_
  rfl⟩
instance fnR18Next {d:List Ent}{i:Bs}{xs:List AV}{id:Option Value}[hx:Ents xs d]:Ans Tryz.prog GL 200 [.sl 2 xs id,str i] (DOk d) (int (nxR d i)):=⟨fun hd=>by
 have hv:=hd.val (kyO [78] i)
 unfold nxR
 refine spec_enter Tryz.func200 rfl Tryz.ntmps200 rfl (fun _ hs=>?_)
 repeat' first|refine Zz ?_|intro _
 cases hg:(gO d (kyO [78] i)).isSome
 ·have hn:=valE_no hg
  rw [hn,if_neg (by rw [kn_nil];decide)]
  repeat' first|refine Zz ?_|intro _
  refine reE ?_
  rfl
 ·by_cases he:knE (valE d (kyO [78] i))=0
  ·rw [if_pos he]
   repeat' first|refine Zz ?_|intro _
   rw [decide_eq_false (not_not_intro he)]
   repeat' first|refine Zz ?_|intro _
   refine reE ?_
   rfl
  ·rw [if_neg he]
   repeat' first|refine Zz ?_|intro _
   rw [decide_eq_true he]
   repeat' first|refine Zz ?_|intro _
   refine reE ?_
   rfl⟩
end Go.Proofs.YtmadjfemenlamaaGreatDoor

namespace Go.Proofs.YtmadjfemenlamaaGreatDoor
open Go Go.RowKit Tw Av
attribute [local irreducible] clB enB
set_option maxHeartbeats 1000000 in
instance fnCoState {d:List Ent}{i:Bs}{hh t h:Int}{xs:List AV}{id:Option Value}[hx:Ents xs d]:Ans Tryz.prog GL 269 [.agg 3 [.agg 1 [.sl 2 xs id],int hh,int t],str i,int h] (DOk d) (.tup [staA (stR d i h t),int (stE d i h t)]):=⟨fun hd=>by
 obtain⟨⟨_,_,c1,c2⟩,_⟩:=clF d i
 refine spec_enter Tryz.func269 rfl Tryz.ntmps269 rfl (fun _ hs=>?_)
 repeat' first|refine Zz ?_|intro _
 unfold stR stE
 generalize hC:clR d i=C at *
 obtain⟨c,k,p,f,l⟩:=C
 dsimp only at c1 c2
 cases h1:clB d i
 ·repeat' first|refine Zz ?_|intro _
  refine reE ?_
  rfl
 rw [if_neg (show ¬ true=false by decide)]
 repeat' first|refine Zz ?_|intro _
 cases h2:actC ⟨c,k,p,f,l⟩ t
 ·repeat' first|refine Zz ?_|intro _
  refine reE ?_
  rfl
 rw [if_neg (show ¬ true=false by decide)]
 repeat' first|refine Zz ?_|intro _
 cases h3:(findC l h).isSome
 ·repeat' first|refine Zz ?_|intro _
  refine reE ?_
  rfl
 ·rw [if_neg (show ¬ true=false by decide),if_pos rfl]
  repeat' first|refine Zz ?_|intro _
  refine reE ?_
  rfl⟩
set_option maxHeartbeats 1000000 in
instance fnR18State {d:List Ent}{i:Bs}{t h:Int}{xs:List AV}{id:Option Value}[hx:Ents xs d]:Ans Tryz.prog GL 290 [.sl 2 xs id,str i,int h,int t] (DOk d) (.tup [staA (stR d i h t),int (stE d i h t)]):=⟨fun hd=>by
 obtain⟨⟨_,_,c1,c2⟩,_,hr,_⟩:=clF d i
 refine spec_enter Tryz.func290 rfl Tryz.ntmps290 rfl (fun _ hs=>?_)
 repeat' first|refine Zz ?_|intro _
 unfold stR stE
 generalize hC:clR d i=C at *
 obtain⟨c,k,p,f,l⟩:=C
 dsimp only at c1 c2 hr
 cases h1:clB d i
 ·repeat' first|refine Zz ?_|intro _
  refine reE ?_
  rfl
 rw [if_neg (show ¬ true=false by decide)]
 repeat' first|refine Zz ?_|intro _
 cases h2:actC ⟨c,k,p,f,l⟩ t
 ·repeat' first|refine Zz ?_|intro _
  refine reE ?_
  rfl
 rw [if_neg (show ¬ true=false by decide)]
 repeat' first|refine Zz ?_|intro _
 rw [findR_eq h hr]
 cases h3:(findC l h).isSome
 ·repeat' first|refine Zz ?_|intro _
  refine reE ?_
  rfl
 ·rw [if_neg (show ¬ true=false by decide),if_pos rfl]
  repeat' first|refine Zz ?_|intro _
  refine reE ?_
  rfl⟩
theorem pr_yes {d:List Ent}{i:Bs}{h t:Int}{k v:Bs}{p:Prf}(h0:stE d i h t=0):prE d i h t k v p=if holdsB (stR d i h t).r ⟨k,v⟩ p=false then 18 else 0:=by
 unfold prE
 rw [h0]
 cases holdsB (stR d i h t).r ⟨k,v⟩ p <;> rfl
theorem pr_no {d:List Ent}{i:Bs}{h t:Int}{k v:Bs}{p:Prf}(h0:stE d i h t≠0):prE d i h t k v p=stE d i h t:=by
 unfold prE
 rw [if_neg (fun e=>h0 e.1)]
set_option maxHeartbeats 1000000 in
instance fnCoProved {d:List Ent}{i k v:Bs}{h t a m:Int}{p:List Hsh}{xs ps:List AV}{id id2:Option Value}[hx:Ents xs d][hp:Hshs ps p]:Ans Tryz.prog GL 261 [.agg 1 [.sl 2 xs id],str i,int h,int t,str k,str v,.agg 3 [int a,int m,.sl 32 ps id2]] (DOk d∧m≤9223372036854775807) (int (prE d i h t k v ⟨a,m,p⟩)):=⟨fun hq=>by
 obtain⟨hd,hm⟩:=hq
 refine spec_enter Tryz.func261 rfl Tryz.ntmps261 rfl (fun _ hs=>?_)
 repeat' first|refine Zz ?_|intro _
 by_cases h0:stE d i h t=0
 ·rw [decide_eq_true h0,pr_yes h0]
  repeat' first|refine Zz ?_|intro _
  cases h1:holdsB (stR d i h t).r ⟨k,v⟩ ⟨a,m,p⟩
  ·repeat' first|refine Zz ?_|intro _
   refine reE ?_
   rfl
  ·repeat' first|refine Zz ?_|intro _
   refine reE ?_
   rw [h0]
   rfl
 ·rw [decide_eq_false h0,pr_no h0]
  repeat' first|refine Zz ?_|intro _
  refine reE ?_
  rfl⟩
set_option maxHeartbeats 1000000 in
instance fnR18Proved {d:List Ent}{i k v:Bs}{h t a m:Int}{p:List Hsh}{xs ps:List AV}{id id2:Option Value}[hx:Ents xs d][hp:Hshs ps p]:Ans Tryz.prog GL 196 [.sl 2 xs id,str i,int h,int t,str k,str v,.agg 3 [int a,int m,.sl 32 ps id2]] (DOk d∧m≤9223372036854775807) (int (prE d i h t k v ⟨a,m,p⟩)):=⟨fun hq=>by
 obtain⟨hd,hm⟩:=hq
 refine spec_enter Tryz.func196 rfl Tryz.ntmps196 rfl (fun _ hs=>?_)
 repeat' first|refine Zz ?_|intro _
 by_cases h0:stE d i h t=0
 ·rw [decide_eq_false (not_not_intro h0),pr_yes h0]
  repeat' first|refine Zz ?_|intro _
  cases h1:holdsB (stR d i h t).r ⟨k,v⟩ ⟨a,m,p⟩
  ·repeat' first|refine Zz ?_|intro _
   refine reE ?_
   rfl
  ·repeat' first|refine Zz ?_|intro _
   refine reE ?_
   rfl
 ·rw [decide_eq_true h0,pr_no h0]
  repeat' first|refine Zz ?_|intro _
  refine reE ?_
  rfl⟩
end Go.Proofs.YtmadjfemenlamaaGreatDoor

namespace Go.Proofs.YtmadjfemenlamaaGreatDoor
open Go Go.RowKit Tw Av
attribute [local irreducible] clB enB
structure TxB (x:TxX):Prop where
 i:x.i.length≤400000000
 o:x.o.length≤400000000
 p:x.p.length≤400000000
 q:x.q.length≤400000000
 y:x.y.length≤400000000
 a:x.a.length≤400000000
 s:x.x.s.length≤400000000
 k:x.x.k.length≤400000000
 d:x.x.d.length≤400000000
 f:x.x.f.length≤400000000
 g:x.x.g.length≤400000000
 hh:x.h.h≤9223372036854775807
 ht:x.h.t≤9223372036854775807
 fm:x.f.m≤9223372036854775807
 gm:x.g.a.m≤9223372036854775807∧x.g.b.m≤9223372036854775807
instance fnLFails {d:List Ent}{h t e:Int}{xs:List AV}[hx:Ents xs d]:Ans Tryz.prog GL 51 [.agg 3 [.agg 1 [.sl 2 xs none],int h,int t],int e] True (.tup [dA (failR d e).1,repA (failR d e).2]):=⟨fun _=>by
 have h':=hx.out
 subst h'
 refine spec_enter Tryz.func51 rfl Tryz.ntmps51 rfl (fun _ hs=>?_)
 repeat' first|refine Zz ?_|intro _
 refine reE ?_
 rfl⟩
instance fnLTold {d r:List Ent}{h t e a b:Int}{c:Bs}{xs ys:List AV}[hx:Ents xs d][hy:Ents ys r]:Ans Tryz.prog GL 141 [.agg 3 [.agg 1 [.sl 2 xs none],int h,int t],.agg 1 [.sl 2 ys none],int e,.agg 3 [int a,int b,str c]] True (.tup [dA (tellR d (r,e) ⟨a,b,c⟩).1,repA (tellR d (r,e) ⟨a,b,c⟩).2]):=⟨fun _=>by
 have h':=hx.out
 subst h'
 have h':=hy.out
 subst h'
 unfold tellR
 refine spec_enter Tryz.func141 rfl Tryz.ntmps141 rfl (fun _ hs=>?_)
 repeat' first|refine Zz ?_|intro _
 by_cases he:e=0
 ·rw [if_pos he,decide_eq_false (not_not_intro he)]
  repeat' first|refine Zz ?_|intro _
  refine reE ?_
  rfl
 ·rw [if_neg he,decide_eq_true he]
  repeat' first|refine Zz ?_|intro _
  refine reE ?_
  rfl⟩
instance fnLPuts {d:List Ent}{h t:Int}{k v:Bs}{xs:List AV}[hx:Ents xs d]:Ans Tryz.prog GL 146 [.agg 3 [.agg 1 [.sl 2 xs none],int h,int t],str k,str v] (DOk d) (.tup [dA (putsR d k v).1,repA (putsR d k v).2]):=⟨fun hd=>by
 have h':=hx.out
 subst h'
 refine spec_enter Tryz.func146 rfl Tryz.ntmps146 rfl (fun _ hs=>?_)
 repeat' first|refine Zz ?_|intro _
 refine reE ?_
 rfl⟩
set_option maxHeartbeats 1000000 in
instance fnLFund {d:List Ent}{h t:Int}{x:TxX}{xs:List AV}[hx:Ents xs d]:Ans Tryz.prog GL 88 [.agg 3 [.agg 1 [.sl 2 xs none],int h,int t],txA x] (DOk d∧TxB x) (.tup [dA (fundR d x.x).1,repA (fundR d x.x).2]):=⟨fun hp=>by
 obtain⟨hd,hb⟩:=hp
 have b1:=hb.d
 have h':=hx.out
 subst h'
 refine spec_enter Tryz.func88 rfl Tryz.ntmps88 rfl (fun _ hs=>?_)
 repeat' first|refine Zz ?_|intro _
 unfold fundR
 cases h1:denB x.x.d
 ·rw [if_pos (.inl rfl)]
  repeat' first|refine Zz ?_|intro _
  refine reE ?_
  rfl
 repeat' first|refine Zz ?_|intro _
 by_cases h2:0 < hopN x.x.d
 ·rw [if_pos (.inr (.inl h2)),decide_eq_true (show (0:Int) < ((hopN x.x.d:Nat):Int) by omega)]
  repeat' first|refine Zz ?_|intro _
  refine reE ?_
  rfl
 rw [decide_eq_false (show ¬ (0:Int) < ((hopN x.x.d:Nat):Int) by omega)]
 repeat' first|refine Zz ?_|intro _
 cases h3:plainB x.x.g
 ·rw [if_pos (.inr (.inr rfl))]
  repeat' first|refine Zz ?_|intro _
  refine reE ?_
  rfl
 rw [if_neg (show ¬ (true=false∨0 < hopN x.x.d∨true=false) by simp [h2])]
 repeat' first|refine Zz ?_|intro _
 refine reE ?_
 rfl⟩
set_option maxHeartbeats 1000000 in
instance fnLMove {d:List Ent}{h t:Int}{x:TxX}{xs:List AV}[hx:Ents xs d]:Ans Tryz.prog GL 89 [.agg 3 [.agg 1 [.sl 2 xs none],int h,int t],txA x] (DOk d∧TxB x) (.tup [dA (movR d x.x).1,repA (movR d x.x).2]):=⟨fun hp=>by
 obtain⟨hd,hb⟩:=hp
 have b1:=hb.d
 have h':=hx.out
 subst h'
 refine spec_enter Tryz.func89 rfl Tryz.ntmps89 rfl (fun _ hs=>?_)
 repeat' first|refine Zz ?_|intro _
 unfold movR
 cases h1:denB x.x.d
 ·rw [if_pos (.inl rfl)]
  repeat' first|refine Zz ?_|intro _
  refine reE ?_
  rfl
 repeat' first|refine Zz ?_|intro _
 cases h2:plainB x.x.f
 ·rw [if_pos (.inr (.inl rfl))]
  repeat' first|refine Zz ?_|intro _
  refine reE ?_
  rfl
 repeat' first|refine Zz ?_|intro _
 cases h3:plainB x.x.g
 ·rw [if_pos (.inr (.inr rfl))]
  repeat' first|refine Zz ?_|intro _
  refine reE ?_
  rfl
 rw [if_neg (show ¬ (true=false∨true=false∨true=false) by decide)]
 repeat' first|refine Zz ?_|intro _
 refine reE ?_
 rfl⟩
set_option maxHeartbeats 1000000 in
instance fnLCreate {d:List Ent}{h t:Int}{x:TxX}{xs:List AV}[hx:Ents xs d]:Ans Tryz.prog GL 90 [.agg 3 [.agg 1 [.sl 2 xs none],int h,int t],txA x] (DOk d∧TxB x) (.tup [dA (creR d x).1,repA (creR d x).2]):=⟨fun hp=>by
 obtain⟨hd,hb⟩:=hp
 have b1:=hb.i
 have h':=hx.out
 subst h'
 have hw:CliW (newR x.y x.e x.h):=by
  unfold newR
  split
  ·rename_i h
   exact (may_f h).w
  ·exact zero_f.w
 refine spec_enter Tryz.func90 rfl Tryz.ntmps90 rfl (fun _ hs=>?_)
 repeat' first|refine Zz ?_|intro _
 unfold creR
 cases h1:partB x.i
 ·rw [if_pos rfl]
  repeat' first|refine Zz ?_|intro _
  refine reE ?_
  rfl
 rw [if_neg (show ¬ true=false by decide)]
 repeat' first|refine Zz ?_|intro _
 cases h2:clB d x.i
 rotate_left
 ·rw [if_pos rfl]
  repeat' first|refine Zz ?_|intro _
  refine reE ?_
  rfl
 rw [if_neg (show ¬ false=true by decide)]
 repeat' first|refine Zz ?_|intro _
 by_cases h3:newE x.y x.e x.h=0
 rotate_left
 ·rw [if_pos h3,decide_eq_true h3]
  repeat' first|refine Zz ?_|intro _
  refine reE ?_
  rfl
 rw [if_neg (not_not_intro h3),decide_eq_false (not_not_intro h3)]
 repeat' first|refine Zz ?_|intro _
 refine reE ?_
 rfl⟩
theorem updC_w {x:Cli}{h:Hdr}{m:Hsh}{t:Int}(hx:CliF x)(h1:h.h≤9223372036854775807)(h2:h.t≤9223372036854775807):CliW (updC x h m t):=by
 unfold updC
 split
 ·unfold putC
  split
  ·exact hx.w
  ·split
   ·exact⟨hx.w.n,hx.w.p,hx.w.s⟩
   ·have hn:=hx.n
    refine⟨?_,hx.w.p,fun s hs=>?_⟩
    ·show (insS x.l (stOf h)).length≤_
     unfold insS
     simp
     omega
    ·have hs:s ∈ insS x.l (stOf h):=hs
     unfold insS at hs
     rcases List.mem_append.1 (List.mem_of_mem_drop hs) with hs|hs
     ·exact hx.w.s s (List.mem_of_mem_take hs)
     ·rcases List.mem_cons.1 hs with rfl|hs
      ·exact⟨by show h.h≤_;omega,by show h.t≤_;omega⟩
      ·exact hx.w.s s (List.mem_of_mem_drop hs)
 ·exact zero_f.w
set_option maxHeartbeats 1000000 in
instance fnLUpdate {d:List Ent}{h t:Int}{x:TxX}{xs:List AV}[hx:Ents xs d]:Ans Tryz.prog GL 91 [.agg 3 [.agg 1 [.sl 2 xs none],int h,int t],txA x] (DOk d∧TxB x) (.tup [dA (updR d x t).1,repA (updR d x t).2]):=⟨fun hp=>by
 obtain⟨hd,hb⟩:=hp
 have b1:=hb.i
 have b2:=hb.hh
 have b3:=hb.ht
 have h':=hx.out
 subst h'
 have hC:CliOk (clR d x.i)∧x.h.h≤9223372036854775807∧x.h.t≤9223372036854775807:=⟨(clF d x.i).ok,by omega,by omega⟩
 refine spec_enter Tryz.func91 rfl Tryz.ntmps91 rfl (fun _ hs=>?_)
 repeat' first|refine Zz ?_|intro _
 unfold updR
 cases h1:clB d x.i
 ·rw [if_pos rfl]
  repeat' first|refine Zz ?_|intro _
  refine reE ?_
  rfl
 rw [if_neg (show ¬ true=false by decide)]
 repeat' first|refine Zz ?_|intro _
 by_cases h3:updE (clR d x.i) x.h x.m t=0
 rotate_left
 ·rw [if_pos h3,decide_eq_true h3]
  repeat' first|refine Zz ?_|intro _
  refine reE ?_
  rfl
 rw [if_neg (not_not_intro h3),decide_eq_false (not_not_intro h3)]
 have hw:CliW (updC (clR d x.i) x.h x.m t):=updC_w (clF d x.i) b2 b3
 repeat' first|refine Zz ?_|intro _
 refine reE ?_
 rfl⟩
end Go.Proofs.YtmadjfemenlamaaGreatDoor

namespace Go.Proofs.YtmadjfemenlamaaGreatDoor
open Go Go.RowKit Tw Av
theorem gT_most {c m:Int}{σ:RS}(h:0≤m):((gT c m σ).length:Int)≤m:=(rtT_len c m σ.1.1 σ.1.2).2 h
theorem riI_most {c m:Int}{s:Bs}{b:Bool}(h:0≤m):riI c m s b≤m:=by
 unfold riI
 split <;> omega
theorem rpd_m (s:Bs):(rpdV s).m≤2000:=by
 unfold rpdV
 split
 ·exact riI_most (by decide)
 ·decide
theorem sdP_m (s:Bs)(b:Bool):(sdP s b).m≤2000:=by
 unfold sdP
 split
 ·exact rpd_m _
 ·decide
theorem rgd_m (s:Bs):(rgdV s).a.m≤2000∧(rgdV s).b.m≤2000:=by
 unfold rgdV
 split
 ·exact⟨sdP_m _ _,sdP_m _ _⟩
 ·decide
theorem txV_b (σ:RS):TxB (txV σ):=by
 have ht:∀ (c:Int) (τ:RS),(gT c 4000 τ).length≤400000000:=fun c τ=>by
  have:=gT_most (c:=c) (m:=4000) (σ:=τ) (by decide)
  omega
 have hi:∀ (c:Int) (τ:RS),gI c 1099511627776 τ≤9223372036854775807:=fun c τ=>Int.le_trans (gI_le (by decide)).2 (by decide)
 exact⟨ht _ _,ht _ _,ht _ _,ht _ _,ht _ _,ht _ _,ht _ _,ht _ _,ht _ _,ht _ _,ht _ _,hi _ _,hi _ _,Int.le_trans (rpd_m _) (by decide),Int.le_trans (rgd_m _).1 (by decide),Int.le_trans (rgd_m _).2 (by decide)⟩
theorem rtxV_b (σ:RS):TxB (rtxV σ):=by
 unfold rtxV
 split
 ·exact txV_b σ
 ·exact⟨by decide,by decide,by decide,by decide,by decide,by decide,by decide,by decide,by decide,by decide,by decide,by decide,by decide,by decide,by decide⟩
theorem sT_le (c m:Int)(σ:RS):(sT c m σ).1.1.length≤σ.1.1.length:=(rsT_len c m σ.1.1 σ.1.2).1
theorem sI_le (c m:Int)(σ:RS):(sI c m σ).1.1.length≤σ.1.1.length:=(rsT_len c 8 σ.1.1 σ.1.2).1
theorem gT_le (c m:Int)(σ:RS):(gT c m σ).length≤σ.1.1.length:=(rsT_len c m σ.1.1 σ.1.2).2
theorem xs0_le (s:Bs):(xs0 s).1.1.length≤s.length:=by
 unfold xs0
 split
 ·exact Nat.le_refl _
 ·exact Nat.zero_le _
theorem rtx_short {s:Bs}(h:s.length < 32):rtxE (xs0 s)=10:=by
 have h0:=xs0_le s
 generalize xs0 s=σ at *
 have h1:(xs10 σ).1.1.length≤σ.1.1.length:=Nat.le_trans (sI_le _ _ _) (Nat.le_trans (sI_le _ _ _) (Nat.le_trans (sT_le _ _ _) (Nat.le_trans (sI_le _ _ _) (Nat.le_trans (sT_le _ _ _) (Nat.le_trans (sT_le _ _ _) (Nat.le_trans (sT_le _ _ _) (Nat.le_trans (sT_le _ _ _) (Nat.le_trans (sT_le _ _ _) (sI_le _ _ _)))))))))
 have h2:(xRoot σ).length≤(xs10 σ).1.1.length:=gT_le _ _ _
 have h3:txOk σ=false:=by
  unfold txOk
  rw [decide_eq_false (show ¬ (xRoot σ).length=32 by omega),Bool.false_and]
 unfold rtxE
 rw [h3]
 rfl
theorem sT_at {c m:Int}{t r:Bs}{σ:RS}(hσ:σ.1=(tlvT c t++r,false))(h0:0≤c)(h1:c < 256){n:Nat}(h2:t.length≤n)(h3:(n:Int)≤m∧n≤16777215):gT c m σ=t∧(sT c m σ).1=(r,false):=by
 obtain⟨a,b,e⟩:=rd_tlvT (c:=c) (most:=m) (s:=t) (r:=r) h0 h1 (by omega) (by omega)
 unfold gT sT
 dsimp only
 rw [hσ]
 dsimp only
 rw [a,b,e]
 exact⟨rfl,rfl⟩
theorem sI_at {c m n:Int}{r:Bs}{σ:RS}(hσ:σ.1=(tlvI c n++r,false))(h0:0≤c)(h1:c < 256)(h2:0≤n)(h3:n≤m)(h4:m≤9223372036854775807):gI c m σ=n∧(sI c m σ).1=(r,false):=by
 obtain⟨a,b,e⟩:=rd_tlvI (c:=c) (most:=m) (n:=n) (r:=r) h0 h1 h2 h3 h4
 unfold gI sI
 dsimp only
 rw [hσ]
 dsimp only
 rw [a,b,e]
 exact⟨rfl,rfl⟩
structure TxG (x:TxX):Prop where
 k:0≤x.k∧x.k≤16
 i:x.i.length≤4000
 o:x.o.length≤4000
 p:x.p.length≤4000
 q:x.q.length≤4000
 y:x.y.length≤4000
 e:0≤x.e∧x.e≤1099511627776
 c:x.h.c.length≤4000
 hh:0≤x.h.h∧x.h.h≤1099511627776
 ht:0≤x.h.t∧x.h.t≤1099511627776
 xq:0≤x.x.q∧x.x.q≤1099511627776
 xh:0≤x.x.h∧x.x.h≤1099511627776
 xt:0≤x.x.t∧x.x.t≤1099511627776
 t:0≤x.t∧x.t≤1099511627776
 xs:x.x.s.length≤4000
 xk:x.x.k.length≤4000
 xd:x.x.d.length≤4000
 xf:x.x.f.length≤4000
 xg:x.x.g.length≤4000
 a:x.a.length≤4000
 f:PG x.f
 g:GG x.g
 gl:(gapB x.g).length≤4000
theorem rtx_txB {x:TxX}(h:TxG x)(hl:(txB x).length≤1000000000):rtxV (xs0 (txB x))=x∧rtxE (xs0 (txB x))=0:=by
 have hB:txB x=tlvI 75 x.k++(tlvT 73 x.i++(tlvT 79 x.o++(tlvT 81 x.p++(tlvT 82 x.q++(tlvT 89 x.y++(tlvI 69 x.e++(tlvT 99 x.h.c++(tlvI 104 x.h.h++(tlvI 116 x.h.t++(tlvT 114 x.h.r.l++(tlvT 77 x.m.l++(tlvI 113 x.x.q++(tlvT 115 x.x.s++(tlvT 107 x.x.k++(tlvT 100 x.x.d++(tlvT 97 (beB x.x.a.n)++(tlvT 102 x.x.f++(tlvT 103 x.x.g++(tlvI 117 x.x.h++(tlvI 118 x.x.t++(tlvT 65 x.a++(tlvI 84 x.t++(tlvT 70 (prfB x.f)++(tlvT 71 (gapB x.g)++[])))))))))))))))))))))))):=by
  unfold txB
  simp only [List.append_assoc,List.append_nil]
 have e0:(xs0 (txB x)).1=(txB x,false):=by
  unfold xs0
  rw [dif_pos hl]
 generalize xs0 (txB x)=σ at *
 rw [hB] at e0
 clear hB hl
 obtain⟨g1,s1⟩:=sI_at (c:=75) (m:=16) e0 (by decide) (by decide) h.k.1 h.k.2 (by decide)
 change (xs1 σ).1=_ at s1
 obtain⟨g2,s2⟩:=sT_at (c:=73) (m:=4000) s1 (by decide) (by decide) h.i (by decide)
 change (xs2 σ).1=_ at s2
 obtain⟨g3,s3⟩:=sT_at (c:=79) (m:=4000) s2 (by decide) (by decide) h.o (by decide)
 change (xs3 σ).1=_ at s3
 obtain⟨g4,s4⟩:=sT_at (c:=81) (m:=4000) s3 (by decide) (by decide) h.p (by decide)
 change (xs4 σ).1=_ at s4
 obtain⟨g5,s5⟩:=sT_at (c:=82) (m:=4000) s4 (by decide) (by decide) h.q (by decide)
 change (xs5 σ).1=_ at s5
 obtain⟨g6,s6⟩:=sT_at (c:=89) (m:=4000) s5 (by decide) (by decide) h.y (by decide)
 change (xs6 σ).1=_ at s6
 obtain⟨g7,s7⟩:=sI_at (c:=69) (m:=1099511627776) s6 (by decide) (by decide) h.e.1 h.e.2 (by decide)
 change (xs7 σ).1=_ at s7
 obtain⟨g8,s8⟩:=sT_at (c:=99) (m:=4000) s7 (by decide) (by decide) h.c (by decide)
 change (xs8 σ).1=_ at s8
 obtain⟨g9,s9⟩:=sI_at (c:=104) (m:=1099511627776) s8 (by decide) (by decide) h.hh.1 h.hh.2 (by decide)
 change (xs9 σ).1=_ at s9
 obtain⟨g10,s10⟩:=sI_at (c:=116) (m:=1099511627776) s9 (by decide) (by decide) h.ht.1 h.ht.2 (by decide)
 change (xs10 σ).1=_ at s10
 obtain⟨g11,s11⟩:=sT_at (c:=114) (m:=32) s10 (by decide) (by decide) (Nat.le_of_eq x.h.r.len) (by decide)
 change (xs11 σ).1=_ at s11
 obtain⟨g12,s12⟩:=sT_at (c:=77) (m:=32) s11 (by decide) (by decide) (Nat.le_of_eq x.m.len) (by decide)
 change (xs12 σ).1=_ at s12
 obtain⟨g13,s13⟩:=sI_at (c:=113) (m:=1099511627776) s12 (by decide) (by decide) h.xq.1 h.xq.2 (by decide)
 change (xs13 σ).1=_ at s13
 obtain⟨g14,s14⟩:=sT_at (c:=115) (m:=4000) s13 (by decide) (by decide) h.xs (by decide)
 change (xs14 σ).1=_ at s14
 obtain⟨g15,s15⟩:=sT_at (c:=107) (m:=4000) s14 (by decide) (by decide) h.xk (by decide)
 change (xs15 σ).1=_ at s15
 obtain⟨g16,s16⟩:=sT_at (c:=100) (m:=4000) s15 (by decide) (by decide) h.xd (by decide)
 change (xs16 σ).1=_ at s16
 obtain⟨g17,s17⟩:=sT_at (c:=97) (m:=32) s16 (by decide) (by decide) (Nat.le_of_eq (beB_len _)) (by decide)
 change (xs17 σ).1=_ at s17
 obtain⟨g18,s18⟩:=sT_at (c:=102) (m:=4000) s17 (by decide) (by decide) h.xf (by decide)
 change (xs18 σ).1=_ at s18
 obtain⟨g19,s19⟩:=sT_at (c:=103) (m:=4000) s18 (by decide) (by decide) h.xg (by decide)
 change (xs19 σ).1=_ at s19
 obtain⟨g20,s20⟩:=sI_at (c:=117) (m:=1099511627776) s19 (by decide) (by decide) h.xh.1 h.xh.2 (by decide)
 change (xs20 σ).1=_ at s20
 obtain⟨g21,s21⟩:=sI_at (c:=118) (m:=1099511627776) s20 (by decide) (by decide) h.xt.1 h.xt.2 (by decide)
 change (xs21 σ).1=_ at s21
 obtain⟨g22,s22⟩:=sT_at (c:=65) (m:=4000) s21 (by decide) (by decide) h.a (by decide)
 change (xs22 σ).1=_ at s22
 obtain⟨g23,s23⟩:=sI_at (c:=84) (m:=1099511627776) s22 (by decide) (by decide) h.t.1 h.t.2 (by decide)
 change (xs23 σ).1=_ at s23
 obtain⟨g24,s24⟩:=sT_at (c:=70) (m:=4000) s23 (by decide) (by decide) (prfB_short h.f) (by decide)
 change (xs24 σ).1=_ at s24
 obtain⟨g25,s25⟩:=sT_at (c:=71) (m:=4000) s24 (by decide) (by decide) h.gl (by decide)
 change (xs25 σ).1=_ at s25
 have hE:gZ (xs25 σ)=0:=by
  unfold gZ
  rw [s25]
  rfl
 have hk:txOk σ=true:=by
  unfold txOk xRoot xMac xAmt xPrf xGap
  rw [g11,g12,g17,g24,g25,hE,x.h.r.len,x.m.len,beB_len,(rpd_prfB h.f).2.1,(rgd_gapB h.g).2]
  rfl
 have hV:txV σ=x:=by
  show (⟨gI 75 16 σ,gT 73 4000 (xs1 σ),gT 79 4000 (xs2 σ),gT 81 4000 (xs3 σ),gT 82 4000 (xs4 σ),gT 89 4000 (xs5 σ),gI 69 1099511627776 (xs6 σ),⟨gT 99 4000 (xs7 σ),gI 104 1099511627776 (xs8 σ),gI 116 1099511627776 (xs9 σ),hOf (gT 114 32 (xs10 σ))⟩,hOf (gT 77 32 (xs11 σ)),⟨gI 113 1099511627776 (xs12 σ),gT 115 4000 (xs13 σ),gT 107 4000 (xs14 σ),gT 100 4000 (xs15 σ),wV (gT 97 32 (xs16 σ)),gT 102 4000 (xs17 σ),gT 103 4000 (xs18 σ),gI 117 1099511627776 (xs19 σ),gI 118 1099511627776 (xs20 σ)⟩,gT 65 4000 (xs21 σ),gI 84 1099511627776 (xs22 σ),rpdV (gT 70 4000 (xs23 σ)),rgdV (gT 71 4000 (xs24 σ))⟩:TxX)=x
  rw [g1,g2,g3,g4,g5,g6,g7,g8,g9,g10,g11,g12,g13,g14,g15,g16,g17,g18,g19,g20,g21,g22,g23,g24,g25,hOf_self,hOf_self,(rpd_prfB h.f).1,(rgd_gapB h.g).1,wV,if_pos (beB_len _),beN_beB,wOf_eta]
 unfold rtxV rtxE
 rw [hk,if_pos rfl,if_pos rfl]
 exact⟨hV,rfl⟩
end Go.Proofs.YtmadjfemenlamaaGreatDoor
