/- the core, walked: channels -/
import Derived.Test.YtlmcongmglfaeaaGreatDoorD28
import Derived.Test.YtlmcongmglfaeaaGreatDoorD30
import Derived.Test.YtlmcongmglfaeaaGreatDoorD33
import Derived.Test.YtlmcongmglfaeaaGreatDoorD35
import Derived.Test.YtlmcongmglfaeaaGreatDoorD38
import Derived.Test.YtlmcongmglfaeaaGreatDoorD39
import Derived.Test.YtlmcongmglfaeaaGreatDoorD40
namespace Go.Proofs.YtlmcongmglfaeaaGreatDoor
open Go Go.RowKit Tw Av
theorem rcd_nil:rcdE []=10:=by rfl
theorem red_nil:redE []=10:=by rfl
theorem kn_nil:knE []=10:=by rfl
theorem valE_no {d:List Ent}{k:Bs}(h:(gO d k).isSome=false):valE d k=[]:=by
 unfold valE
 cases hg:gO d k with
 | none=>rfl
 | some v=>rw [hg] at h;cases h
theorem rcd_zero {s:Bs}(h:rcdE s≠0):rcdV s=zeroC:=by
 unfold rcdE at h
 unfold rcdV
 split at h
 ·exact (h rfl).elim
 ·rename_i hn
  rw [if_neg hn]
theorem red_zero {s:Bs}(h:redE s≠0):redV s=zeroE:=by
 unfold redE at h
 unfold redV
 split at h
 ·exact (h rfl).elim
 ·rename_i hn
  rw [if_neg hn]
theorem rcd_may {s:Bs}(h:rcdE s=0):mayC (rcdV s)=true:=by
 unfold rcdE at h
 unfold rcdV
 split at h
 ·rename_i hn
  rw [if_pos hn]
  unfold rcOk at hn
  rw [bet,bet] at hn
  exact hn.2.2
 ·cases h
theorem rcd_or (s:Bs):mayC (rcdV s)=true\/rcdV s=zeroC:=by
 by_cases h:rcdE s=0
 ·exact .inl (rcd_may h)
 ·exact .inr (rcd_zero h)
theorem lat_mem {l:List Sta}(h:l≠[]):latC l ∈ l:=by
 rcases List.eq_nil_or_concat l with rfl|⟨l',a,rfl⟩
 ·exact (h rfl).elim
 ·unfold latC
  simp
structure CliF (x:Cli):Prop where
 ok:CliOk x
 w:CliW x
 r:Rise x.l
 n:x.l.length<=32
theorem zero_f:CliF zeroC:=⟨⟨by decide,by decide,by decide,by decide⟩,⟨by decide,by decide,fun s h=>by cases h⟩,List.Pairwise.nil,by decide⟩
theorem may_f {x:Cli}(h:mayC x=true):CliF x:=by
 obtain⟨⟨h1,h2,h3,h4,h5⟩,h6⟩:=all_iff.1 h
 have hc:=may_chk h
 have hb:∀ s ∈ x.l,1<=s.h/\s.h<=1099511627776/\0<=s.t/\s.t<=1099511627776:=fun s hs=>by
  obtain⟨_,_,c3,c4,c5,c6⟩:=chkH_iff.1 (hc s hs)
  exact⟨c3,c4,c5,c6⟩
 have hne:x.l≠[]:=fun e=>by rw [e] at h4;simp at h4
 have hl:=hb _ (lat_mem hne)
 have step:∀ i (hi:i + 1 < x.l.length),x.l[i].h < x.l[i + 1].h/\x.l[i].t<=x.l[i + 1].t:=fun i hi=>by
  have:=h6 (i + 1) hi
  unfold mayAt at this
  rw [bet,Bool.or_eq_true] at this
  rcases this.2 with h|h
  ·simp at h
  ·rw [show x.l.getD (i + 1 - 1) zeroS=x.l[i] by simp [List.getD,show i < x.l.length by omega],show x.l.getD (i + 1) zeroS=x.l[i + 1] by simp [List.getD,hi]] at h
   unfold fol at h
   simpa using h
 have far:∀ d i (hi:i + 1 + d < x.l.length),x.l[i].h < x.l[i + 1 + d].h/\x.l[i].t<=x.l[i + 1 + d].t:=by
  intro d
  induction d with
  | zero=>exact fun i hi=>step i hi
  | succ d ih=>
   intro i hi
   have a:=ih i (by omega)
   have b:=step (i + 1 + d) (by omega)
   exact⟨Int.lt_trans a.1 b.1,Int.le_trans a.2 b.2⟩
 refine⟨⟨by omega,by omega,by omega,by omega⟩,⟨by omega,by omega,fun s hs=>by
  have:=hb s hs
  omega⟩,?_,h5⟩
 unfold Rise
 rw [List.pairwise_iff_getElem]
 intro i j hi hj hij
 have:=far (j - i - 1) i (by omega)
 simpa [show i + 1 + (j - i - 1)=j by omega] using this
theorem clF (d:List Ent)(i:Bs):CliF (clR d i):=by
 unfold clR
 rcases rcd_or (valE d (kyO [67] i)) with h|h
 ·exact may_f h
 ·rw [h]
  exact zero_f
theorem imp_cz {b:Bool}:Imp (outOf [.agg 5 [.lit (.string ⟨#[]⟩),.lit (.string ⟨#[]⟩),.lit (.int .i64 0),.lit (.bool false),.lit (.slice none 0 0)],boo b]) (.tup [cliA zeroC,boo b]):=(inferInstance:ImpR (.tup [.agg 5 [.lit (.string ⟨#[]⟩),.lit (.string ⟨#[]⟩),.lit (.int .i64 0),.lit (.bool false),.lit (.slice none 0 0)],boo b]) (.tup [.agg 5 [str [],str [],int 0,boo false,.sl 34 [] none],boo b])).imp
instance fnCoClient {d:List Ent}{i:Bs}{xs:List AV}{id:Option Value}[hx:Ents xs d]:Ans Tryz.prog GL 19 [.agg 1 [.sl 2 xs id],str i] (DOk d) (.tup [cliA (clR d i),boo (clB d i)]):=⟨fun hd=>by
 have hv:=hd.val (kyO [67] i)
 refine qE Tryz.func19 rfl Tryz.ntmps19 rfl (fun _ hs=>?_)
 repeat' first|refine Zz ?_|intro _
 refine reE ?_
 rfl⟩
instance fnR18Client {d:List Ent}{i:Bs}{xs:List AV}{id:Option Value}[hx:Ents xs d]:Ans Tryz.prog GL 20 [.sl 2 xs id,str i] (DOk d) (.tup [cliA (clR d i),boo (clB d i)]):=⟨fun hd=>by
 have hv:=hd.val (kyO [67] i)
 unfold clR clB
 refine qE Tryz.func20 rfl Tryz.ntmps20 rfl (fun _ hs=>?_)
 repeat' first|refine Zz ?_|intro _
 cases hg:(gO d (kyO [67] i)).isSome
 ·have hn:=valE_no hg
  rw [hn,rcd_nil,rcd_zero (by rw [rcd_nil];decide)]
  repeat' first|refine Zz ?_|intro _
  refine reI ?_
  exact imp_cz
 ·by_cases he:rcdE (valE d (kyO [67] i))=0
  ·rw [dT he]
   repeat' first|refine Zz ?_|intro _
   rw [dZ (nni he)]
   repeat' first|refine Zz ?_|intro _
   refine reE ?_
   rfl
  ·rw [dZ he,rcd_zero he]
   repeat' first|refine Zz ?_|intro _
   rw [dT he]
   repeat' first|refine Zz ?_|intro _
   refine reI ?_
   exact imp_cz⟩
instance fnCoEnd {d:List Ent}{k:Bs}{xs:List AV}{id:Option Value}[hx:Ents xs d]:Ans Tryz.prog GL 59 [.agg 1 [.sl 2 xs id],str k] (DOk d) (.tup [endA (redV (valE d k)),boo (decide (redE (valE d k)=0))]):=⟨fun hd=>by
 have hv:=hd.val k
 refine qE Tryz.func59 rfl Tryz.ntmps59 rfl (fun _ hs=>?_)
 repeat' first|refine Zz ?_|intro _
 refine reE ?_
 rfl⟩
instance fnCoConn {d:List Ent}{i:Bs}{xs:List AV}{id:Option Value}[hx:Ents xs d]:Ans Tryz.prog GL 21 [.agg 1 [.sl 2 xs id],str i] (DOk d) (.tup [endA (enR d [75] i),boo (enB d [75] i)]):=⟨fun hd=>by
 refine qE Tryz.func21 rfl Tryz.ntmps21 rfl (fun _ hs=>?_)
 repeat' first|refine Zz ?_|intro _
 refine reE ?_
 rfl⟩
instance fnCoChan {d:List Ent}{i:Bs}{xs:List AV}{id:Option Value}[hx:Ents xs d]:Ans Tryz.prog GL 23 [.agg 1 [.sl 2 xs id],str i] (DOk d) (.tup [endA (enR d [72] i),boo (enB d [72] i)]):=⟨fun hd=>by
 refine qE Tryz.func23 rfl Tryz.ntmps23 rfl (fun _ hs=>?_)
 repeat' first|refine Zz ?_|intro _
 refine reE ?_
 rfl⟩
instance fnR18End {d:List Ent}{k i:Bs}{xs:List AV}{id:Option Value}[hx:Ents xs d]:Ans Tryz.prog GL 22 [.sl 2 xs id,str k,str i] (DOk d/\k.length<=1000000000) (.tup [endA (enR d k i),boo (enB d k i)]):=⟨fun hp=>by
 obtain⟨hd,hk⟩:=hp
 have hv:=hd.val (kyO k i)
 unfold enR enB
 refine qE Tryz.func22 rfl Tryz.ntmps22 rfl (fun _ hs=>?_)
 repeat' first|refine Zz ?_|intro _
 cases hg:(gO d (kyO k i)).isSome
 ·have hn:=valE_no hg
  rw [hn,red_nil,red_zero (by rw [red_nil];decide)]
  repeat' first|refine Zz ?_|intro _
  refine reE ?_
  rfl
 ·by_cases he:redE (valE d (kyO k i))=0
  ·rw [dT he]
   repeat' first|refine Zz ?_|intro _
   rw [dZ (nni he)]
   repeat' first|refine Zz ?_|intro _
   refine reE ?_
   rfl
  ·rw [dZ he,red_zero he]
   repeat' first|refine Zz ?_|intro _
   rw [dT he]
   repeat' first|refine Zz ?_|intro _
   refine reE ?_
   rfl⟩
instance fnCoNext {d:List Ent}{i:Bs}{xs:List AV}{id:Option Value}[hx:Ents xs d]:Ans Tryz.prog GL 28 [.agg 1 [.sl 2 xs id],str i] (DOk d) (int (nxR d i)):=⟨fun hd=>by
 have hv:=hd.val (kyO [78] i)
 unfold nxR
 refine qE Tryz.func28 rfl Tryz.ntmps28 rfl (fun _ hs=>?_)
 repeat' first|refine Zz ?_|intro _
 by_cases he:knE (valE d (kyO [78] i))=0
 ·rw [if_pos he,dZ (nni he)]
  repeat' first|refine Zz ?_|intro _
  refine reE ?_
  rfl
 ·rw [if_neg he,dT he]
  repeat' first|refine Zz ?_|intro _
  refine reE ?_
  rfl⟩
instance fnR18Next {d:List Ent}{i:Bs}{xs:List AV}{id:Option Value}[hx:Ents xs d]:Ans Tryz.prog GL 29 [.sl 2 xs id,str i] (DOk d) (int (nxR d i)):=⟨fun hd=>by
 have hv:=hd.val (kyO [78] i)
 unfold nxR
 refine qE Tryz.func29 rfl Tryz.ntmps29 rfl (fun _ hs=>?_)
 repeat' first|refine Zz ?_|intro _
 cases hg:(gO d (kyO [78] i)).isSome
 ·have hn:=valE_no hg
  rw [hn,if_neg (by rw [kn_nil];decide)]
  repeat' first|refine Zz ?_|intro _
  refine reE ?_
  rfl
 ·by_cases he:knE (valE d (kyO [78] i))=0
  ·rw [if_pos he]
   repeat' first|refine Zz ?_|intro _
   rw [dZ (nni he)]
   repeat' first|refine Zz ?_|intro _
   refine reE ?_
   rfl
  ·rw [if_neg he]
   repeat' first|refine Zz ?_|intro _
   rw [dT he]
   repeat' first|refine Zz ?_|intro _
   refine reE ?_
   rfl⟩

attribute [local irreducible] clB enB
set_option maxHeartbeats 1000000 in
instance fnCoState {d:List Ent}{i:Bs}{hh t h:Int}{xs:List AV}{id:Option Value}[hx:Ents xs d]:Ans Tryz.prog GL 63 [.agg 3 [.agg 1 [.sl 2 xs id],int hh,int t],str i,int h] (DOk d) (.tup [staA (stR d i h t),int (stE d i h t)]):=⟨fun hd=>by
 obtain⟨⟨_,_,c1,c2⟩,_⟩:=clF d i
 refine qE Tryz.func63 rfl Tryz.ntmps63 rfl (fun _ hs=>?_)
 repeat' first|refine Zz ?_|intro _
 unfold stR stE
 generalize hC:clR d i=C at *
 obtain⟨c,k,p,f,l⟩:=C
 dsimp only at c1 c2
 cases h1:clB d i
 ·repeat' first|refine Zz ?_|intro _
  refine reE ?_
  rfl
 rw [if_neg (show ¬ true=false by decide)]
 repeat' first|refine Zz ?_|intro _
 cases h2:actC ⟨c,k,p,f,l⟩ t
 ·repeat' first|refine Zz ?_|intro _
  refine reE ?_
  rfl
 rw [if_neg (show ¬ true=false by decide)]
 repeat' first|refine Zz ?_|intro _
 cases h3:(findC l h).isSome
 ·repeat' first|refine Zz ?_|intro _
  refine reE ?_
  rfl
 ·rw [if_neg (show ¬ true=false by decide),if_pos rfl]
  repeat' first|refine Zz ?_|intro _
  refine reE ?_
  rfl⟩
set_option maxHeartbeats 1000000 in
instance fnR18State {d:List Ent}{i:Bs}{t h:Int}{xs:List AV}{id:Option Value}[hx:Ents xs d]:Ans Tryz.prog GL 65 [.sl 2 xs id,str i,int h,int t] (DOk d) (.tup [staA (stR d i h t),int (stE d i h t)]):=⟨fun hd=>by
 obtain⟨⟨_,_,c1,c2⟩,_,hr,_⟩:=clF d i
 refine qE Tryz.func65 rfl Tryz.ntmps65 rfl (fun _ hs=>?_)
 repeat' first|refine Zz ?_|intro _
 unfold stR stE
 generalize hC:clR d i=C at *
 obtain⟨c,k,p,f,l⟩:=C
 dsimp only at c1 c2 hr
 cases h1:clB d i
 ·repeat' first|refine Zz ?_|intro _
  refine reE ?_
  rfl
 rw [if_neg (show ¬ true=false by decide)]
 repeat' first|refine Zz ?_|intro _
 cases h2:actC ⟨c,k,p,f,l⟩ t
 ·repeat' first|refine Zz ?_|intro _
  refine reE ?_
  rfl
 rw [if_neg (show ¬ true=false by decide)]
 repeat' first|refine Zz ?_|intro _
 rw [findR_eq h hr]
 cases h3:(findC l h).isSome
 ·repeat' first|refine Zz ?_|intro _
  refine reE ?_
  rfl
 ·rw [if_neg (show ¬ true=false by decide),if_pos rfl]
  repeat' first|refine Zz ?_|intro _
  refine reE ?_
  rfl⟩
theorem pr_yes {d:List Ent}{i:Bs}{h t:Int}{k v:Bs}{p:Prf}(h0:stE d i h t=0):prE d i h t k v p=if holdsB (stR d i h t).r ⟨k,v⟩ p=false then 18 else 0:=by
 unfold prE
 rw [h0]
 cases holdsB (stR d i h t).r ⟨k,v⟩ p <;> rfl
theorem pr_no {d:List Ent}{i:Bs}{h t:Int}{k v:Bs}{p:Prf}(h0:stE d i h t≠0):prE d i h t k v p=stE d i h t:=by
 unfold prE
 rw [if_neg (fun e=>h0 e.1)]
theorem go_yes {d:List Ent}{i:Bs}{h t:Int}{k:Bs}{g:Gp}(h0:stE d i h t=0):goE d i h t k g=if missB (stR d i h t).r k g=false then 18 else 0:=by
 unfold goE
 rw [h0]
 cases missB (stR d i h t).r k g <;> rfl
theorem go_no {d:List Ent}{i:Bs}{h t:Int}{k:Bs}{g:Gp}(h0:stE d i h t≠0):goE d i h t k g=stE d i h t/\goR d i h t k g=zeroS:=by
 have:goE d i h t k g=stE d i h t:=by
  unfold goE
  rw [if_neg (fun e=>h0 e.1)]
 exact⟨this,by unfold goR;rw [this,if_neg h0]⟩
theorem st_no {d:List Ent}{i:Bs}{h t:Int}(h0:stE d i h t≠0):stR d i h t=zeroS:=by
 unfold stR
 rw [if_neg h0]
set_option maxHeartbeats 1000000 in
instance fnCoProved {d:List Ent}{i k v:Bs}{h t a m:Int}{p:List Hsh}{xs ps:List AV}{id id2:Option Value}[hx:Ents xs d][hp:Hshs ps p]:Ans Tryz.prog GL 24 [.agg 1 [.sl 2 xs id],str i,int h,int t,str k,str v,.agg 3 [int a,int m,.sl 32 ps id2]] (DOk d/\m<=9223372036854775807) (int (prE d i h t k v ⟨a,m,p⟩)):=⟨fun hq=>by
 obtain⟨hd,hm⟩:=hq
 refine qE Tryz.func24 rfl Tryz.ntmps24 rfl (fun _ hs=>?_)
 repeat' first|refine Zz ?_|intro _
 by_cases h0:stE d i h t=0
 ·rw [dT h0,pr_yes h0]
  repeat' first|refine Zz ?_|intro _
  cases h1:holdsB (stR d i h t).r ⟨k,v⟩ ⟨a,m,p⟩
  ·repeat' first|refine Zz ?_|intro _
   refine reE ?_
   rfl
  ·repeat' first|refine Zz ?_|intro _
   refine reE ?_
   rw [h0]
   rfl
 ·rw [dZ h0,pr_no h0]
  repeat' first|refine Zz ?_|intro _
  refine reE ?_
  rfl⟩
set_option maxHeartbeats 1000000 in
instance fnR18Proved {d:List Ent}{i k v:Bs}{h t a m:Int}{p:List Hsh}{xs ps:List AV}{id id2:Option Value}[hx:Ents xs d][hp:Hshs ps p]:Ans Tryz.prog GL 25 [.sl 2 xs id,str i,int h,int t,str k,str v,.agg 3 [int a,int m,.sl 32 ps id2]] (DOk d/\m<=9223372036854775807) (int (prE d i h t k v ⟨a,m,p⟩)):=⟨fun hq=>by
 obtain⟨hd,hm⟩:=hq
 refine qE Tryz.func25 rfl Tryz.ntmps25 rfl (fun _ hs=>?_)
 repeat' first|refine Zz ?_|intro _
 by_cases h0:stE d i h t=0
 ·rw [dZ (nni h0),pr_yes h0]
  repeat' first|refine Zz ?_|intro _
  cases h1:holdsB (stR d i h t).r ⟨k,v⟩ ⟨a,m,p⟩
  ·repeat' first|refine Zz ?_|intro _
   refine reE ?_
   rfl
  ·repeat' first|refine Zz ?_|intro _
   refine reE ?_
   rfl
 ·rw [dT h0,pr_no h0]
  repeat' first|refine Zz ?_|intro _
  refine reE ?_
  rfl⟩
set_option maxHeartbeats 1000000 in
instance fnCoGone {d:List Ent}{i k:Bs}{h t n i1 m1 i2 m2:Int}{l r:List Ent}{p q:List Hsh}{xs xl xr x1 x2:List AV}{id:Option Value}[hx:Ents xs d][hl:Ents xl l][hr:Ents xr r][hp:Hshs x1 p][hq:Hshs x2 q]:Ans Tryz.prog GL 26 [.agg 1 [.sl 2 xs id],str i,int h,int t,str k,.agg 9 [int n,.sl 2 xl none,.sl 2 xr none,.agg 3 [int i1,int m1,.sl 32 x1 none],.agg 3 [int i2,int m2,.sl 32 x2 none]]] (DOk d/\m1<=9223372036854775807/\m2<=9223372036854775807) (.tup [staA (goR d i h t k ⟨n,l,r,⟨i1,m1,p⟩,⟨i2,m2,q⟩⟩),int (goE d i h t k ⟨n,l,r,⟨i1,m1,p⟩,⟨i2,m2,q⟩⟩)]):=⟨fun hqq=>by
 obtain⟨hd,hm1,hm2⟩:=hqq
 refine qE Tryz.func26 rfl Tryz.ntmps26 rfl (fun _ hs=>?_)
 repeat' first|refine Zz ?_|intro _
 by_cases h0:stE d i h t=0
 ·unfold goR
  rw [dT h0,go_yes h0]
  repeat' first|refine Zz ?_|intro _
  cases h1:missB (stR d i h t).r k ⟨n,l,r,⟨i1,m1,p⟩,⟨i2,m2,q⟩⟩
  ·repeat' first|refine Zz ?_|intro _
   refine reE ?_
   rfl
  ·repeat' first|refine Zz ?_|intro _
   refine reE ?_
   rw [h0]
   rfl
 ·rw [dZ h0,(go_no h0).1,(go_no h0).2]
  repeat' first|refine Zz ?_|intro _
  refine reE ?_
  rw [st_no h0]
  rfl⟩
set_option maxHeartbeats 1000000 in
instance fnR18Gone {d:List Ent}{i k:Bs}{h t n i1 m1 i2 m2:Int}{l r:List Ent}{p q:List Hsh}{xs xl xr x1 x2:List AV}{id:Option Value}[hx:Ents xs d][hl:Ents xl l][hr:Ents xr r][hp:Hshs x1 p][hq:Hshs x2 q]:Ans Tryz.prog GL 27 [.sl 2 xs id,str i,int h,int t,str k,.agg 9 [int n,.sl 2 xl none,.sl 2 xr none,.agg 3 [int i1,int m1,.sl 32 x1 none],.agg 3 [int i2,int m2,.sl 32 x2 none]]] (DOk d/\m1<=9223372036854775807/\m2<=9223372036854775807) (.tup [staA (goR d i h t k ⟨n,l,r,⟨i1,m1,p⟩,⟨i2,m2,q⟩⟩),int (goE d i h t k ⟨n,l,r,⟨i1,m1,p⟩,⟨i2,m2,q⟩⟩)]):=⟨fun hqq=>by
 obtain⟨hd,hm1,hm2⟩:=hqq
 refine qE Tryz.func27 rfl Tryz.ntmps27 rfl (fun _ hs=>?_)
 repeat' first|refine Zz ?_|intro _
 by_cases h0:stE d i h t=0
 ·unfold goR
  rw [dZ (nni h0),go_yes h0]
  repeat' first|refine Zz ?_|intro _
  cases h1:missB (stR d i h t).r k ⟨n,l,r,⟨i1,m1,p⟩,⟨i2,m2,q⟩⟩
  ·repeat' first|refine Zz ?_|intro _
   refine reE ?_
   rfl
  ·repeat' first|refine Zz ?_|intro _
   refine reE ?_
   rfl
 ·rw [dT h0,(go_no h0).1,(go_no h0).2]
  repeat' first|refine Zz ?_|intro _
  refine reE ?_
  rfl⟩
end Go.Proofs.YtlmcongmglfaeaaGreatDoor

namespace Go.Proofs.YtlmcongmglfaeaaGreatDoor
open Go Go.RowKit Tw Av
attribute [local irreducible] clB enB
structure TxB (x:TxX):Prop where
 i:x.i.length<=400000000
 o:x.o.length<=400000000
 p:x.p.length<=400000000
 q:x.q.length<=400000000
 y:x.y.length<=400000000
 a:x.a.length<=400000000
 s:x.x.s.length<=400000000
 k:x.x.k.length<=400000000
 d:x.x.d.length<=400000000
 f:x.x.f.length<=400000000
 g:x.x.g.length<=400000000
 hh:x.h.h<=9223372036854775807
 ht:x.h.t<=9223372036854775807
 fm:x.f.m<=9223372036854775807
 gm:x.g.a.m<=9223372036854775807/\x.g.b.m<=9223372036854775807
instance fnLFails {d:List Ent}{h t e:Int}{xs:List AV}[hx:Ents xs d]:Ans Tryz.prog GL 49 [.agg 3 [.agg 1 [.sl 2 xs none],int h,int t],int e] True (.tup [dA (failR d e).1,repA (failR d e).2]):=⟨fun _=>by
 have h':=hx.out
 subst h'
 refine qE Tryz.func49 rfl Tryz.ntmps49 rfl (fun _ hs=>?_)
 repeat' first|refine Zz ?_|intro _
 refine reE ?_
 rfl⟩
instance fnLTold {d r:List Ent}{h t e a b:Int}{c:Bs}{xs ys:List AV}[hx:Ents xs d][hy:Ents ys r]:Ans Tryz.prog GL 201 [.agg 3 [.agg 1 [.sl 2 xs none],int h,int t],.agg 1 [.sl 2 ys none],int e,.agg 3 [int a,int b,str c]] True (.tup [dA (tellR d (r,e) ⟨a,b,c⟩).1,repA (tellR d (r,e) ⟨a,b,c⟩).2]):=⟨fun _=>by
 have h':=hx.out
 subst h'
 have h':=hy.out
 subst h'
 unfold tellR
 refine qE Tryz.func201 rfl Tryz.ntmps201 rfl (fun _ hs=>?_)
 repeat' first|refine Zz ?_|intro _
 by_cases he:e=0
 ·rw [if_pos he,dZ (nni he)]
  repeat' first|refine Zz ?_|intro _
  refine reE ?_
  rfl
 ·rw [if_neg he,dT he]
  repeat' first|refine Zz ?_|intro _
  refine reE ?_
  rfl⟩
instance fnLPuts {d:List Ent}{h t:Int}{k v:Bs}{xs:List AV}[hx:Ents xs d]:Ans Tryz.prog GL 205 [.agg 3 [.agg 1 [.sl 2 xs none],int h,int t],str k,str v] (DOk d) (.tup [dA (putsR d k v).1,repA (putsR d k v).2]):=⟨fun hd=>by
 have h':=hx.out
 subst h'
 refine qE Tryz.func205 rfl Tryz.ntmps205 rfl (fun _ hs=>?_)
 repeat' first|refine Zz ?_|intro _
 refine reE ?_
 rfl⟩
set_option maxHeartbeats 1000000 in
instance fnLFund {d:List Ent}{h t:Int}{x:TxX}{xs:List AV}[hx:Ents xs d]:Ans Tryz.prog GL 122 [.agg 3 [.agg 1 [.sl 2 xs none],int h,int t],txA x] (DOk d/\TxB x) (.tup [dA (fundR d x.x).1,repA (fundR d x.x).2]):=⟨fun hp=>by
 obtain⟨hd,hb⟩:=hp
 have b1:=hb.d
 have h':=hx.out
 subst h'
 refine qE Tryz.func122 rfl Tryz.ntmps122 rfl (fun _ hs=>?_)
 repeat' first|refine Zz ?_|intro _
 unfold fundR
 cases h1:denB x.x.d
 ·rw [if_pos (.inl rfl)]
  repeat' first|refine Zz ?_|intro _
  refine reE ?_
  rfl
 repeat' first|refine Zz ?_|intro _
 by_cases h2:0 < hopN x.x.d
 ·rw [if_pos (.inr (.inl h2)),dT (show (0:Int) < ((hopN x.x.d:Nat):Int) by omega)]
  repeat' first|refine Zz ?_|intro _
  refine reE ?_
  rfl
 rw [dZ (show ¬ (0:Int) < ((hopN x.x.d:Nat):Int) by omega)]
 repeat' first|refine Zz ?_|intro _
 cases h3:plainB x.x.g
 ·rw [if_pos (.inr (.inr rfl))]
  repeat' first|refine Zz ?_|intro _
  refine reE ?_
  rfl
 rw [if_neg (show ¬ (true=false\/0 < hopN x.x.d\/true=false) by simp [h2])]
 repeat' first|refine Zz ?_|intro _
 refine reE ?_
 rfl⟩
set_option maxHeartbeats 1000000 in
instance fnLMove {d:List Ent}{h t:Int}{x:TxX}{xs:List AV}[hx:Ents xs d]:Ans Tryz.prog GL 123 [.agg 3 [.agg 1 [.sl 2 xs none],int h,int t],txA x] (DOk d/\TxB x) (.tup [dA (movR d x.x).1,repA (movR d x.x).2]):=⟨fun hp=>by
 obtain⟨hd,hb⟩:=hp
 have b1:=hb.d
 have h':=hx.out
 subst h'
 refine qE Tryz.func123 rfl Tryz.ntmps123 rfl (fun _ hs=>?_)
 repeat' first|refine Zz ?_|intro _
 unfold movR
 cases h1:denB x.x.d
 ·rw [if_pos (.inl rfl)]
  repeat' first|refine Zz ?_|intro _
  refine reE ?_
  rfl
 repeat' first|refine Zz ?_|intro _
 cases h2:plainB x.x.f
 ·rw [if_pos (.inr (.inl rfl))]
  repeat' first|refine Zz ?_|intro _
  refine reE ?_
  rfl
 repeat' first|refine Zz ?_|intro _
 cases h3:plainB x.x.g
 ·rw [if_pos (.inr (.inr rfl))]
  repeat' first|refine Zz ?_|intro _
  refine reE ?_
  rfl
 rw [if_neg (show ¬ (true=false\/true=false\/true=false) by decide)]
 repeat' first|refine Zz ?_|intro _
 refine reE ?_
 rfl⟩
set_option maxHeartbeats 1000000 in
instance fnLCreate {d:List Ent}{h t:Int}{x:TxX}{xs:List AV}[hx:Ents xs d]:Ans Tryz.prog GL 124 [.agg 3 [.agg 1 [.sl 2 xs none],int h,int t],txA x] (DOk d/\TxB x) (.tup [dA (creR d x).1,repA (creR d x).2]):=⟨fun hp=>by
 obtain⟨hd,hb⟩:=hp
 have b1:=hb.i
 have h':=hx.out
 subst h'
 have hw:CliW (newR x.y x.e x.h):=by
  unfold newR
  split
  ·rename_i h
   exact (may_f h).w
  ·exact zero_f.w
 refine qE Tryz.func124 rfl Tryz.ntmps124 rfl (fun _ hs=>?_)
 repeat' first|refine Zz ?_|intro _
 unfold creR
 cases h1:partB x.i
 ·rw [if_pos rfl]
  repeat' first|refine Zz ?_|intro _
  refine reE ?_
  rfl
 rw [if_neg (show ¬ true=false by decide)]
 repeat' first|refine Zz ?_|intro _
 cases h2:clB d x.i
 rotate_left
 ·rw [if_pos rfl]
  repeat' first|refine Zz ?_|intro _
  refine reE ?_
  rfl
 rw [if_neg (show ¬ false=true by decide)]
 repeat' first|refine Zz ?_|intro _
 by_cases h3:newE x.y x.e x.h=0
 rotate_left
 ·rw [if_pos h3,dT h3]
  repeat' first|refine Zz ?_|intro _
  refine reE ?_
  rfl
 rw [if_neg (nni h3),dZ (nni h3)]
 repeat' first|refine Zz ?_|intro _
 refine reE ?_
 rfl⟩
theorem updC_w {x:Cli}{h:Hdr}{m:Hsh}{t:Int}(hx:CliF x)(h1:h.h<=9223372036854775807)(h2:h.t<=9223372036854775807):CliW (updC x h m t):=by
 unfold updC
 split
 ·unfold putC
  split
  ·exact hx.w
  ·split
   ·exact⟨hx.w.n,hx.w.p,hx.w.s⟩
   ·have hn:=hx.n
    refine⟨?_,hx.w.p,fun s hs=>?_⟩
    ·show (insS x.l (stOf h)).length<=_
     unfold insS
     simp
     omega
    ·have hs:s ∈ insS x.l (stOf h):=hs
     unfold insS at hs
     rcases List.mem_append.1 (List.mem_of_mem_drop hs) with hs|hs
     ·exact hx.w.s s (List.mem_of_mem_take hs)
     ·rcases List.mem_cons.1 hs with rfl|hs
      ·exact⟨by show h.h<=_;omega,by show h.t<=_;omega⟩
      ·exact hx.w.s s (List.mem_of_mem_drop hs)
 ·exact zero_f.w
set_option maxHeartbeats 1000000 in
instance fnLUpdate {d:List Ent}{h t:Int}{x:TxX}{xs:List AV}[hx:Ents xs d]:Ans Tryz.prog GL 125 [.agg 3 [.agg 1 [.sl 2 xs none],int h,int t],txA x] (DOk d/\TxB x) (.tup [dA (updR d x t).1,repA (updR d x t).2]):=⟨fun hp=>by
 obtain⟨hd,hb⟩:=hp
 have b1:=hb.i
 have b2:=hb.hh
 have b3:=hb.ht
 have h':=hx.out
 subst h'
 have hC:CliOk (clR d x.i)/\x.h.h<=9223372036854775807/\x.h.t<=9223372036854775807:=⟨(clF d x.i).ok,by omega,by omega⟩
 refine qE Tryz.func125 rfl Tryz.ntmps125 rfl (fun _ hs=>?_)
 repeat' first|refine Zz ?_|intro _
 unfold updR
 cases h1:clB d x.i
 ·rw [if_pos rfl]
  repeat' first|refine Zz ?_|intro _
  refine reE ?_
  rfl
 rw [if_neg (show ¬ true=false by decide)]
 repeat' first|refine Zz ?_|intro _
 by_cases h3:updE (clR d x.i) x.h x.m t=0
 rotate_left
 ·rw [if_pos h3,dT h3]
  repeat' first|refine Zz ?_|intro _
  refine reE ?_
  rfl
 rw [if_neg (nni h3),dZ (nni h3)]
 have hw:CliW (updC (clR d x.i) x.h x.m t):=updC_w (clF d x.i) b2 b3
 repeat' first|refine Zz ?_|intro _
 refine reE ?_
 rfl⟩
end Go.Proofs.YtlmcongmglfaeaaGreatDoor

namespace Go.Proofs.YtlmcongmglfaeaaGreatDoor
open Go Go.RowKit Tw Av
theorem riI_most {c m:Int}{s:Bs}{b:Bool}(h:0<=m):riI c m s b<=m:=by
 unfold riI
 split <;> omega

attribute [local irreducible] clB enB
instance fnLProved {d:List Ent}{h t:Int}{i k v:Bs}{x:TxX}{xs:List AV}[hx:Ents xs d]:Ans Tryz.prog GL 221 [.agg 3 [.agg 1 [.sl 2 xs none],int h,int t],str i,txA x,str k,str v] (DOk d/\TxB x) (int (prE d i x.t t k v x.f)):=⟨fun hp=>by
 obtain⟨hd,hb⟩:=hp
 have b1:DOk d/\x.f.m<=9223372036854775807:=⟨hd,by have:=hb.fm;omega⟩
 refine qE Tryz.func221 rfl Tryz.ntmps221 rfl (fun _ hs=>?_)
 repeat' first|refine Zz ?_|intro _
 refine reE ?_
 rfl⟩
class KeyF (f:FuncId)(k:outParam Bs):Prop where
 out:∀ i,Ans Tryz.prog GL f [str i] True (str (kyO k i))
instance : KeyF 60 [75] := ⟨fun _ => inferInstance⟩
instance : KeyF 62 [72] := ⟨fun _ => inferInstance⟩
instance fnKeyF {f:FuncId}{k i:Bs}[h:KeyF f k]:Ans Tryz.prog GL f [str i] True (str (kyO k i)):=h.out i
theorem initE_s {o q:Bs}:(initE o q).1.s<=9223372036854775807:=by
 unfold initE
 split
 ·exact (by decide:(1:Int)<=9223372036854775807)
 ·exact (by decide:(0:Int)<=9223372036854775807)
theorem tryE_s {o p:Bs}{t:EndX}:(tryE o p t).1.s<=9223372036854775807:=by
 unfold tryE
 split
 ·exact (by decide:(0:Int)<=9223372036854775807)
 ·split
  ·exact (by decide:(0:Int)<=9223372036854775807)
  ·exact (by decide:(2:Int)<=9223372036854775807)
theorem openE_s {x t:EndX}{a b:Int}{i p:Bs}:(openE x a i p t b).1.s<=9223372036854775807:=by
 unfold openE
 split
 ·exact (by decide:(3:Int)<=9223372036854775807)
 ·exact (by decide:(0:Int)<=9223372036854775807)
theorem ackE_s {x t:EndX}{i p:Bs}:(ackE x i p t).1.s<=9223372036854775807:=by
 unfold ackE
 split
 ·decide
 ·exact openE_s
set_option maxHeartbeats 2000000 in
instance fnLBegin {f:FuncId}{kk:Bs}[FnB Tryz.prog f][KeyF f kk]{d:List Ent}{h t:Int}{i:Bs}{x:TxX}{b:Bool}{xs:List AV}[hx:Ents xs d]:Ans Tryz.prog GL 208 [.agg 3 [.agg 1 [.sl 2 xs none],int h,int t],txA x,str i,fnv f [],boo b] (DOk d/\TxB x) (.tup [dA (begR d x i kk b t).1,repA (begR d x i kk b t).2]):=⟨fun hp=>by
 have hp':=hp
 obtain⟨hd,hb⟩:=hp
 have h':=hx.out
 subst h'
 have e1:=initE_s (o:=x.o) (q:=x.q)
 have e2:=tryE_s (o:=x.o) (p:=x.p) (t:=⟨1,x.q,x.o,[]⟩)
 refine qE Tryz.func208 rfl Tryz.ntmps208 rfl (fun _ hs=>?_)
 repeat' first|refine Zz ?_|intro _
 unfold begR
 cases b
 ·rw [if_pos rfl]
  repeat' first|refine Zz ?_|intro _
  by_cases h3:(initE x.o x.q).2=0
  rotate_left
  ·rw [if_pos h3,dT h3]
   repeat' first|refine Zz ?_|intro _
   refine reE ?_
   rfl
  rw [if_neg (nni h3),dZ (nni h3)]
  repeat' first|refine Zz ?_|intro _
  refine reE ?_
  rfl
 rw [if_neg (show ¬ true=false by decide)]
 repeat' first|refine Zz ?_|intro _
 by_cases h1:prE d i x.t t (kyO kk x.p) (enxB ⟨1,x.q,x.o,[]⟩) x.f=0
 rotate_left
 ·rw [if_pos h1,dT h1]
  repeat' first|refine Zz ?_|intro _
  refine reE ?_
  rfl
 rw [if_neg (nni h1),dZ (nni h1)]
 repeat' first|refine Zz ?_|intro _
 by_cases h3:(tryE x.o x.p ⟨1,x.q,x.o,[]⟩).2=0
 rotate_left
 ·rw [if_pos h3,dT h3]
  repeat' first|refine Zz ?_|intro _
  refine reE ?_
  rfl
 rw [if_neg (nni h3),dZ (nni h3)]
 repeat' first|refine Zz ?_|intro _
 refine reE ?_
 rfl⟩
set_option maxHeartbeats 2000000 in
instance fnLConnect {d:List Ent}{h t:Int}{x:TxX}{xs:List AV}[hx:Ents xs d]:Ans Tryz.prog GL 126 [.agg 3 [.agg 1 [.sl 2 xs none],int h,int t],txA x] (DOk d/\TxB x) (.tup [dA (conR d x t).1,repA (conR d x t).2]):=⟨fun hp=>by
 have hp':=hp
 obtain⟨hd,hb⟩:=hp
 have h':=hx.out
 subst h'
 refine qE Tryz.func126 rfl Tryz.ntmps126 rfl (fun _ hs=>?_)
 repeat' first|refine Zz ?_|intro _
 unfold conR
 cases h1:partB x.i
 ·rw [if_pos rfl]
  repeat' first|refine Zz ?_|intro _
  refine reE ?_
  rfl
 rw [if_neg (show ¬ true=false by decide)]
 repeat' first|refine Zz ?_|intro _
 cases h2:enB d [75] x.i
 rotate_left
 ·rw [if_pos rfl]
  repeat' first|refine Zz ?_|intro _
  refine reE ?_
  rfl
 rw [if_neg (show ¬ false=true by decide)]
 repeat' first|refine Zz ?_|intro _
 cases h3:clB d x.o
 ·rw [if_pos rfl]
  repeat' first|refine Zz ?_|intro _
  refine reE ?_
  rfl
 rw [if_neg (show ¬ true=false by decide)]
 repeat' first|refine Zz ?_|intro _
 refine reE ?_
 rfl⟩
set_option maxHeartbeats 2000000 in
instance fnLOpen {d:List Ent}{h t:Int}{x:TxX}{xs:List AV}[hx:Ents xs d]:Ans Tryz.prog GL 128 [.agg 3 [.agg 1 [.sl 2 xs none],int h,int t],txA x] (DOk d/\TxB x) (.tup [dA (opnR d x t).1,repA (opnR d x t).2]):=⟨fun hp=>by
 have hp':=hp
 obtain⟨hd,hb⟩:=hp
 have h':=hx.out
 subst h'
 refine qE Tryz.func128 rfl Tryz.ntmps128 rfl (fun _ hs=>?_)
 repeat' first|refine Zz ?_|intro _
 unfold opnR
 cases h1:partB x.i
 ·rw [if_pos rfl]
  repeat' first|refine Zz ?_|intro _
  refine reE ?_
  rfl
 rw [if_neg (show ¬ true=false by decide)]
 repeat' first|refine Zz ?_|intro _
 cases h2:enB d [72] x.i
 rotate_left
 ·rw [if_pos rfl]
  repeat' first|refine Zz ?_|intro _
  refine reE ?_
  rfl
 rw [if_neg (show ¬ false=true by decide)]
 repeat' first|refine Zz ?_|intro _
 cases h3:enB d [75] x.o
 ·rw [if_pos rfl]
  repeat' first|refine Zz ?_|intro _
  refine reE ?_
  rfl
 rw [if_neg (show ¬ true=false by decide)]
 repeat' first|refine Zz ?_|intro _
 by_cases h4:(enR d [75] x.o).s=3
 rotate_left
 ·rw [if_pos h4,dT h4]
  repeat' first|refine Zz ?_|intro _
  refine reE ?_
  rfl
 rw [if_neg (nni h4),dZ (nni h4)]
 repeat' first|refine Zz ?_|intro _
 refine reE ?_
 rfl⟩
def joiQ (d:List Ent)(x:TxX)(i k pp:Bs)(th:EndX)(r:EndX × Int)(t:Int):Out18:=if prE d i x.t t (kyO k pp) (enxB th) x.f≠0 then failR d (prE d i x.t t (kyO k pp) (enxB th) x.f) else if r.2≠0 then failR d r.2 else putsR d (kyO k x.i) (enxB r.1)
theorem joi_t {d:List Ent}{x:TxX}{own:EndX}{i k:Bs}{t:Int}:joiR d x own i k true t=joiQ d x i k x.p ⟨2,own.q,own.o,x.i⟩ (ackE own x.i x.p ⟨2,own.q,own.o,x.i⟩) t:=rfl
theorem joi_f {d:List Ent}{x:TxX}{own:EndX}{i k:Bs}{t:Int}:joiR d x own i k false t=joiQ d x i k own.p ⟨3,own.q,own.o,x.i⟩ (cnfE own x.i ⟨3,own.q,own.o,x.i⟩) t:=rfl
set_option maxHeartbeats 2000000 in
instance fnLJoined {f:FuncId}{kk:Bs}[FnB Tryz.prog f][KeyF f kk]{d:List Ent}{h t:Int}{i:Bs}{x:TxX}{b:Bool}{s:Int}{o q p:Bs}{xs:List AV}[hx:Ents xs d]:Ans Tryz.prog GL 209 [.agg 3 [.agg 1 [.sl 2 xs none],int h,int t],txA x,.agg 4 [int s,str o,str q,str p],str i,fnv f [],boo b] (DOk d/\TxB x) (.tup [dA (joiR d x ⟨s,o,q,p⟩ i kk b t).1,repA (joiR d x ⟨s,o,q,p⟩ i kk b t).2]):=⟨fun hp=>by
 have hp':=hp
 obtain⟨hd,hb⟩:=hp
 have h':=hx.out
 subst h'
 have e1:=ackE_s (x:=⟨s,o,q,p⟩) (i:=x.i) (p:=x.p) (t:=⟨2,q,o,x.i⟩)
 have e2:(cnfE ⟨s,o,q,p⟩ x.i ⟨3,q,o,x.i⟩).1.s<=9223372036854775807:=openE_s
 refine qE Tryz.func209 rfl Tryz.ntmps209 rfl (fun _ hs=>?_)
 repeat' first|refine Zz ?_|intro _
 cases b
 ·rw [joi_f]
  repeat' first|refine Zz ?_|intro _
  unfold joiQ
  by_cases h1:prE d i x.t t (kyO kk p) (enxB ⟨3,q,o,x.i⟩) x.f=0
  rotate_left
  ·rw [if_pos h1,dT h1]
   repeat' first|refine Zz ?_|intro _
   refine reE ?_
   rfl
  rw [if_neg (nni h1),dZ (nni h1)]
  repeat' first|refine Zz ?_|intro _
  by_cases h3:(cnfE ⟨s,o,q,p⟩ x.i ⟨3,q,o,x.i⟩).2=0
  rotate_left
  ·rw [if_pos h3,dT h3]
   repeat' first|refine Zz ?_|intro _
   refine reE ?_
   rfl
  rw [if_neg (nni h3),dZ (nni h3)]
  repeat' first|refine Zz ?_|intro _
  refine reE ?_
  rfl
 ·rw [joi_t]
  repeat' first|refine Zz ?_|intro _
  unfold joiQ
  by_cases h1:prE d i x.t t (kyO kk x.p) (enxB ⟨2,q,o,x.i⟩) x.f=0
  rotate_left
  ·rw [if_pos h1,dT h1]
   repeat' first|refine Zz ?_|intro _
   refine reE ?_
   rfl
  rw [if_neg (nni h1),dZ (nni h1)]
  repeat' first|refine Zz ?_|intro _
  by_cases h3:(ackE ⟨s,o,q,p⟩ x.i x.p ⟨2,q,o,x.i⟩).2=0
  rotate_left
  ·rw [if_pos h3,dT h3]
   repeat' first|refine Zz ?_|intro _
   refine reE ?_
   rfl
  rw [if_neg (nni h3),dZ (nni h3)]
  repeat' first|refine Zz ?_|intro _
  refine reE ?_
  rfl⟩
set_option maxHeartbeats 2000000 in
instance fnLConnected {d:List Ent}{h t:Int}{x:TxX}{xs:List AV}[hx:Ents xs d]:Ans Tryz.prog GL 127 [.agg 3 [.agg 1 [.sl 2 xs none],int h,int t],txA x] (DOk d/\TxB x) (.tup [dA (codR d x t).1,repA (codR d x t).2]):=⟨fun hp=>by
 have hp':=hp
 obtain⟨hd,hb⟩:=hp
 have h':=hx.out
 subst h'
 refine qE Tryz.func127 rfl Tryz.ntmps127 rfl (fun _ hs=>?_)
 repeat' first|refine Zz ?_|intro _
 unfold codR
 cases h3:enB d [75] x.i
 ·rw [if_pos rfl]
  repeat' first|refine Zz ?_|intro _
  refine reE ?_
  rfl
 rw [if_neg (show ¬ true=false by decide)]
 repeat' first|refine Zz ?_|intro _
 refine reE ?_
 rfl⟩
set_option maxHeartbeats 2000000 in
instance fnLOpened {d:List Ent}{h t:Int}{x:TxX}{xs:List AV}[hx:Ents xs d]:Ans Tryz.prog GL 129 [.agg 3 [.agg 1 [.sl 2 xs none],int h,int t],txA x] (DOk d/\TxB x) (.tup [dA (opdR d x t).1,repA (opdR d x t).2]):=⟨fun hp=>by
 have hp':=hp
 obtain⟨hd,hb⟩:=hp
 have h':=hx.out
 subst h'
 refine qE Tryz.func129 rfl Tryz.ntmps129 rfl (fun _ hs=>?_)
 repeat' first|refine Zz ?_|intro _
 unfold opdR
 cases h3:enB d [72] x.i
 ·rw [if_pos (.inl rfl)]
  repeat' first|refine Zz ?_|intro _
  refine reE ?_
  rfl
 repeat' first|refine Zz ?_|intro _
 cases h4:enB d [75] (enR d [72] x.i).o
 ·rw [if_pos (.inr rfl)]
  repeat' first|refine Zz ?_|intro _
  refine reE ?_
  rfl
 rw [if_neg (show ¬ (true=false\/true=false) by decide)]
 repeat' first|refine Zz ?_|intro _
 refine reE ?_
 rfl⟩
end Go.Proofs.YtlmcongmglfaeaaGreatDoor

namespace Go.Proofs.YtlmcongmglfaeaaGreatDoor
open Go Go.RowKit Tw Av
attribute [local irreducible] clB enB
def Asks (f:FuncId)(cs:List Value)(m:List Av.Piece)(A:EndX->Bool):Prop:=∀ c:EndX,Av.Spec Tryz.prog GL f (.agg 4 [int c.s,str c.o,str c.q,str c.p]::cs.map .lit) m fun u m'=>u=boo (A c)/\m'=m
def chaT (d:List Ent)(i:Bs)(A:EndX->Bool):AV:=.tup [endA (enR d [72] i),str (if chaE d i A=0 then chaN d i else []),boo (decide (chaE d i A=0) && chaK d i),int (chaE d i A)]
set_option maxHeartbeats 2000000 in
theorem chan_spec {f:FuncId}[FnB Tryz.prog f]{cs:List Value}{m:List Av.Piece}{A:EndX->Bool}{d:List Ent}{h t:Int}{i:Bs}(ha:Asks f cs m A)(hc:∀ v ∈ cs,v.oneCell'=true)(hd:DOk d) :
  Av.Spec Tryz.prog GL 210 [.agg 3 [dA d,int h,int t],str i,fnv f cs] m fun u m'=>u=chaT d i A/\m'=m:=by
 refine qE Tryz.func210 rfl Tryz.ntmps210 rfl (fun _ hs=>?_)
 repeat' first|refine Zz ?_|intro _
 rename_i g1 g2
 unfold chaT chaE
 cases h1:enB d [72] i
 ·rw [if_pos rfl]
  repeat' first|refine Zz ?_|intro _
  refine reK m ⟨rfl,rfl⟩ ?_
  exact sbl
 rw [if_neg (show ¬ true=false by decide)]
 repeat' first|refine Zz ?_|intro _
 by_cases h2:(enR d [72] i).s=3
 rotate_left
 ·rw [dT h2]
  repeat' first|refine Zz ?_|intro _
  refine reK m ⟨?_,rfl⟩ ?_
  ·simp [h2,outOf]
  ·exact sbl
 rw [dZ (nni h2)]
 repeat' first|refine Zz ?_|intro _
 first|refine al_on ?_|skip
 refine al_callV (args:=[endA (enR d [72] i)]) (cs:=cs) m [Av.Piece.var g2 84 (endA (enR d [72] i)),.var g1 119 (.agg 3 [dA d,int h,int t])] (by rw [hs];exact ha _) (fun u m' hh=>?_) (List.perm_append_comm (l₁:=[Av.Piece.var g2 84 (endA (enR d [72] i)),.var g1 119 (.agg 3 [dA d,int h,int t])]) (l₂:=m)) (hcs:=hc)
 obtain⟨rfl,rfl⟩:=hh
 refine al_st (fun ok w hS=>hS.perm (m':=[Av.Piece.var g2 84 (endA (enR d [72] i)),.var g1 119 (.agg 3 [dA d,int h,int t])]++m') List.perm_append_comm) ?_
 cases h3:A (enR d [72] i)
 ·repeat' first|refine Zz ?_|intro _
  refine reK m' ⟨?_,rfl⟩ ?_
  ·simp [h2,outOf]
  ·exact sbl
 rw [if_neg (show ¬ ((enR d [72] i).s≠3\/true=false) by simp [h2])]
 repeat' first|refine Zz ?_|intro _
 refine reK m' ⟨?_,rfl⟩ ?_
 ·rfl
 ·exact sbl
theorem send_asks:Asks 211 [] [] (fun _=>true):=fun c=>by
 show Av.Spec _ _ _ [.agg 4 [int c.s,str c.o,str c.q,str c.p]] _ _
 refine qE Tryz.func211 rfl Tryz.ntmps211 rfl (fun _ hs=>?_)
 repeat' first|refine Zz ?_|intro _
 refine reK [] ⟨rfl,rfl⟩ ?_
 exact sbl
theorem recv_asks {g:Nat}{x:Pkt}:Asks 219 [.pointer (some ⟨g,0,none⟩)] [.var g 47 (pktA x)] (fun c=>decide (c.p=x.s)):=fun c=>by
 show Av.Spec _ _ _ [.agg 4 [int c.s,str c.o,str c.q,str c.p],ptr g] _ _
 refine qE Tryz.func219 rfl Tryz.ntmps219 rfl (fun _ hs=>?_)
 repeat' first|refine Zz ?_|intro _
 refine reK _ ⟨rfl,rfl⟩ ?_
 exact sbl
theorem ended_asks {g:Nat}{x:Pkt}:Asks 314 [.pointer (some ⟨g,0,none⟩)] [.var g 47 (pktA x)] (fun c=>decide (c.p=x.k)):=fun c=>by
 show Av.Spec _ _ _ [.agg 4 [int c.s,str c.o,str c.q,str c.p],ptr g] _ _
 refine qE Tryz.func314 rfl Tryz.ntmps314 rfl (fun _ hs=>?_)
 repeat' first|refine Zz ?_|intro _
 refine reK _ ⟨rfl,rfl⟩ ?_
 exact sbl
theorem nums_le {x:Pkt}(h:chkP x=true):x.q<=1099511627776/\x.h<=1099511627776/\x.t<=1099511627776/\1<=x.q:=by
 unfold chkP numsP at h
 rw [bet,decide_eq_true_iff] at h
 obtain⟨⟨h0,h1,_,h2,_,h3,_⟩,_⟩:=h
 exact⟨h1,h2,h3,h0⟩
set_option maxHeartbeats 2000000 in
instance fnLSend {d:List Ent}{h t:Int}{x:TxX}{xs:List AV}[hx:Ents xs d]:Ans Tryz.prog GL 130 [.agg 3 [.agg 1 [.sl 2 xs none],int h,int t],txA x] (DOk d/\TxB x) (.tup [dA (sndR d x.x).1,repA (sndR d x.x).2]):=⟨fun hp=>by
 have hp':=hp
 obtain⟨hd,hb⟩:=hp
 have h':=hx.out
 subst h'
 have b1:=hb.d
 have b2:=hb.s
 refine qE Tryz.func130 rfl Tryz.ntmps130 rfl (fun _ hs=>?_)
 repeat' first|refine Zz ?_|intro _
 refine al_callK (args:=[.agg 3 [dA d,int h,int t],str x.x.s,fnv 211 []]) [] _ (by rw [hs];exact chan_spec send_asks (by simp) hd) (fun u m' hh=>?_) lpr
 obtain⟨rfl,rfl⟩:=hh
 unfold chaT sndR goes
 repeat' first|refine Zz ?_|intro _
 by_cases h1:chaE d x.x.s (fun _=>true)=0
 rotate_left
 ·rw [if_pos h1,dT h1]
  repeat' first|refine Zz ?_|intro _
  refine reE ?_
  rfl
 rw [if_neg (nni h1),dZ (nni h1),dT h1,if_pos h1,Bool.true_and]
 repeat' first|refine Zz ?_|intro _
 unfold chkN
 cases h2:chkP ⟨nxR d x.x.s,x.x.s,(enR d [72] x.x.s).p,x.x.d,x.x.a,x.x.f,x.x.g,x.x.h,x.x.t⟩
 ·rw [if_pos rfl,if_neg (show ¬ false=true by decide),dT (show (1:Int)≠0 by decide)]
  repeat' first|refine Zz ?_|intro _
  refine reE ?_
  rfl
 rw [if_neg (show ¬ true=false by decide),if_pos rfl,dZ (show ¬ (0:Int)≠0 by decide)]
 repeat' first|refine Zz ?_|intro _
 cases h3:chaK d x.x.s
 ·rw [if_pos (.inl rfl)]
  repeat' first|refine Zz ?_|intro _
  refine reE ?_
  rfl
 repeat' first|refine Zz ?_|intro _
 cases h4:clB d (chaN d x.x.s)
 ·rw [if_pos (.inr rfl)]
  repeat' first|refine Zz ?_|intro _
  refine reE ?_
  rfl
 rw [if_neg (show ¬ (true=false\/true=false) by decide)]
 repeat' first|refine Zz ?_|intro _
 cases h5:lateP ⟨nxR d x.x.s,x.x.s,(enR d [72] x.x.s).p,x.x.d,x.x.a,x.x.f,x.x.g,x.x.h,x.x.t⟩ (latC (clR d (chaN d x.x.s)).l).h (latC (clR d (chaN d x.x.s)).l).t
 rotate_left
 ·rw [if_pos rfl]
  repeat' first|refine Zz ?_|intro _
  refine reE ?_
  rfl
 rw [if_neg (show ¬ false=true by decide)]
 have q1:DOk d/\x.x.s.length<=1000000000/\x.x.d.length<=1000000000:=⟨hd,by omega,by omega⟩
 have q2:nxR d x.x.s<=1099511627776/\x.x.h<=1099511627776/\x.x.t<=1099511627776/\1<=nxR d x.x.s:=nums_le h2
 obtain⟨q3,q4,q5,q8⟩:=q2
 have q6:DOk (sendR d ⟨nxR d x.x.s,x.x.s,(enR d [72] x.x.s).p,x.x.d,x.x.a,x.x.f,x.x.g,x.x.h,x.x.t⟩).1:=sendR_dok hd
 repeat' first|refine Zz ?_|intro _
 unfold thenR
 dsimp only
 by_cases h6:(sendR d ⟨nxR d x.x.s,x.x.s,(enR d [72] x.x.s).p,x.x.d,x.x.a,x.x.f,x.x.g,x.x.h,x.x.t⟩).2=0
 rotate_left
 ·rw [if_neg h6,dZ h6]
  repeat' first|refine Zz ?_|intro _
  rw [dZ h6]
  repeat' first|refine Zz ?_|intro _
  refine reE ?_
  rfl
 rw [if_pos h6,dT h6]
 repeat' first|refine Zz ?_|intro _
 have q7:DOk (putR (sendR d ⟨nxR d x.x.s,x.x.s,(enR d [72] x.x.s).p,x.x.d,x.x.a,x.x.f,x.x.g,x.x.h,x.x.t⟩).1 (kyW [80] x.x.s (nxR d x.x.s)) (comP ⟨nxR d x.x.s,x.x.s,(enR d [72] x.x.s).p,x.x.d,x.x.a,x.x.f,x.x.g,x.x.h,x.x.t⟩)).1:=putR_dok q6
 by_cases h7:(putR (sendR d ⟨nxR d x.x.s,x.x.s,(enR d [72] x.x.s).p,x.x.d,x.x.a,x.x.f,x.x.g,x.x.h,x.x.t⟩).1 (kyW [80] x.x.s (nxR d x.x.s)) (comP ⟨nxR d x.x.s,x.x.s,(enR d [72] x.x.s).p,x.x.d,x.x.a,x.x.f,x.x.g,x.x.h,x.x.t⟩)).2=0
 rotate_left
 ·rw [if_neg h7,dZ h7]
  repeat' first|refine Zz ?_|intro _
  refine reE ?_
  rfl
 rw [if_pos h7,dT h7]
 repeat' first|refine Zz ?_|intro _
 refine reE ?_
 rfl⟩
end Go.Proofs.YtlmcongmglfaeaaGreatDoor
