/- a log on a disk, in plain words: what Commit leaves, whatever power does -/
import Derived.Test.YtndhpgclmgpmoaaGreatDoorA27
import Derived.Test.YtndhpgclmgpmoaaGreatDoorA29
import Derived.Test.YtndhpgclmgpmoaaGreatDoorA30
namespace Go.Proofs.YtndhpgclmgpmoaaGreatDoor
open Go Go.RowKit Tw Av
def tn (c:Nat)(a b:Bs):Bs:=a.take c++b.drop c
theorem tn_len {c:Nat}{a b:Bs}(h:a.length=b.length):(tn c a b).length=b.length:=by
 unfold tn
 rw [lla,List.length_take,List.length_drop]
 omega
theorem tn_take {c k:Nat}{a b:Bs}(h:a.length=b.length)(he:a.take k=b.take k):(tn c a b).take k=a.take k:=by
 unfold tn
 by_cases hk:k<=c
 ·by_cases hc:k<=a.length
  ·rw [List.take_append_of_le_length (by rw [List.length_take];omega),List.take_take,Nat.min_eq_left hk]
  ·rw [List.drop_of_length_le (by omega),List.append_nil,List.take_take,Nat.min_eq_left hk]
 ·have h1:a.take c=b.take c:=by
   have:=congrArg (List.take c) he
   rwa [List.take_take,List.take_take,Nat.min_eq_left (by omega)] at this
  rw [h1,List.take_append_drop,he]
def upF (f:Int->Bs)(a:Int)(s:Bs):Int->Bs:=fun b=>if b=a then s else f b
theorem dvSafe_keep {x:DvX}{w:Int × Bs}(h:MpN x.es):dvSafe (dvKeep x w)=upF (dvSafe x) w.1 w.2:=funext fun b=>dvKeep_safe h b
theorem crW_safe {x:DvX}{k:List Bool}{torn cut:Int}{i:Nat}{w:Int × Bs}(h:DvOk x)(hw:w.2.length=64) :
  dvSafe (crW x k torn cut i w)=dvSafe x\/∃ c,dvSafe (crW x k torn cut i w)=upF (dvSafe x) w.1 (tn c w.2 (dvSafe x w.1)):=by
 unfold crW
 split
 ·right
  rw [dvSafe_keep h.mn]
  dsimp only
  split
  ·exact⟨_,rfl⟩
  ·refine⟨64,?_⟩
   unfold tn
   rw [List.take_of_length_le (by omega),List.drop_of_length_le (by rw [dvSafe_len h];omega),List.append_nil]
 ·exact .inl rfl
theorem crF_inv {k:List Bool}{torn cut:Int}(P:(Int->Bs)->Prop):∀ {ws:List (Int × Bs)} {i:Nat} {x:DvX},DvOk x->(∀ w ∈ ws,w.2.length=64) ->
  (∀ w ∈ ws,∀ f c,(∀ a,(f a).length=64)->P f->P (upF f w.1 (tn c w.2 (f w.1))))->P (dvSafe x)->P (dvSafe (crF k torn cut i x ws))
 | [],_,_,_,_,_,h=>h
 | w::ws,i,x,hx,hw,hP,h=>by
  refine crF_inv P (ws:=ws) (crW_ok hx (hw w (by simp))) (fun v hv=>hw v (by simp [hv])) (fun v hv=>hP v (by simp [hv])) ?_
  rcases crW_safe (k:=k) (torn:=torn) (cut:=cut) (i:=i) hx (hw w (by simp)) with e|⟨c,e⟩
  ·rw [e];exact h
  ·rw [e];exact hP w (by simp) _ c (dvSafe_len hx) h
theorem dvCrash_inv {x:DvX}{k:List Bool}{torn cut:Int}(P:(Int->Bs)->Prop)(hx:DvOk x)(hP:∀ w ∈ x.ws,∀ f c,(∀ a,(f a).length=64)->P f->P (upF f w.1 (tn c w.2 (f w.1))))(h:P (dvSafe x)):P (dvSafe (dvCrash x k torn cut)):=by
 unfold dvCrash
 split
 ·exact h
 ·exact crF_inv P hx hx.wl hP h
theorem wsL_cons (w:Int × Bs)(ws:List (Int × Bs))(b:Int):wsL (w::ws) b=match wsL ws b with|some s=>some s|none=>if w.1=b then some w.2 else none:=by
 unfold wsL
 rw [List.reverse_cons,List.find?_append]
 cases ws.reverse.find? fun w=>decide (w.1=b) with
 | some v=>rfl
 | none=>
  by_cases h:w.1=b <;> simp [h]
theorem foldKeep_safe:∀ {ws:List (Int × Bs)} {x:DvX},MpN x.es->∀ b,dvSafe (ws.foldl dvKeep x) b=(wsL ws b).getD (dvSafe x b)
 | [],_,_,_=>rfl
 | w::ws,x,h,b=>by
  rw [List.foldl_cons,foldKeep_safe (ws:=ws) (show MpN (dvKeep x w).es from kpE_n h),wsL_cons,dvKeep_safe h]
  cases wsL ws b with
  | some s=>rfl
  | none=>
   by_cases e:b=w.1
   ·rw [if_pos e];simp [e]
   ·rw [if_neg e]
    have:¬ w.1=b:=fun h=>e h.symm
    simp [this]
theorem dvFl_safe {x:DvX}(h:MpN x.es)(b:Int):dvSafe (dvFl x) b=dvRd x b:=foldKeep_safe h b
theorem ckF_mem:∀ {f:Nat} {a:Int} {s:Bs} {w:Int × Bs},w ∈ ckF f a s->∃ j:Nat,w=(a + j,pad64 (s.drop (64 * j)))/\64 * j < s.length
 | 0,_,_,_,h=>by simp [ckF] at h
 | f + 1,a,s,w,h=>by
  unfold ckF at h
  split at h
  ·simp at h
  ·rename_i hs
   have hl:0 < s.length:=List.length_pos_iff.2 hs
   rcases List.mem_cons.1 h with rfl|h
   ·exact⟨0,by simp,by omega⟩
   ·obtain⟨j,rfl,hj⟩:=ckF_mem h
    rw [List.length_drop] at hj
    refine⟨j + 1,?_,by omega⟩
    rw [List.drop_drop,show 64 + 64 * j=64 * (j + 1) by omega,show a + 1 + (j:Int)=a + ((j + 1:Nat):Int) by omega]
theorem ckF_lk:∀ {f:Nat} {a:Int} {s:Bs} (b:Int),s.length<=f->wsL (ckF f a s) b=if a<=b/\64 * (b - a) < s.length then some (pad64 (s.drop (64 * (b - a).toNat))) else none
 | 0,a,s,b,h=>by
  obtain rfl:=List.length_eq_zero_iff.1 (Nat.le_zero.1 h)
  rw [if_neg (by simp;omega)]
  rfl
 | f + 1,a,s,b,h=>by
  unfold ckF
  by_cases hs:s=[]
  ·subst hs
   rw [if_pos rfl,if_neg (by simp;omega)]
   rfl
  ·have hl:0 < s.length:=List.length_pos_iff.2 hs
   rw [if_neg hs,wsL_cons,ckF_lk (f:=f) b (by rw [List.length_drop];omega),List.length_drop]
   by_cases h1:a=b
   ·subst h1
    rw [if_neg (show ¬ (a + 1<=a/\64 * (a - (a + 1)) < ((s.length - 64:Nat):Int)) by omega)]
    dsimp only
    rw [if_pos rfl,if_pos (show a<=a/\64 * (a - a) < (s.length:Int) by omega),Int.sub_self]
    rfl
   ·by_cases h2:a<=b/\64 * (b - a) < s.length
    ·rw [if_pos ⟨by omega,by omega⟩,if_pos h2]
     dsimp only
     rw [List.drop_drop]
     congr 3
     omega
    ·rw [if_neg (by omega),if_neg h2]
     dsimp only
     rw [if_neg h1]
theorem dvWr_in {x:DvX}{a:Int}{s:Bs}(hon:x.on=true)(ha:0<=a/\a < x.n)(hs:s.length=64) :
  dvWr x a s=if dvMay x=false then (dvPut (dvOff x) (a,s),14) else (dvPut (dvStep x) (a,s),0):=by
 unfold dvWr
 rw [if_neg (by rw [hon];decide),if_neg]
 rintro (h|h)
 ·unfold dvHas at h
  rw [dT ha] at h
  cases h
 ·exact h hs
theorem dvMay_ar {x:DvX}(h:dvMay x=false):x.ar=true:=by
 unfold dvMay at h
 cases e:x.ar with
 | true=>rfl
 | false=>rw [e] at h;simp at h
theorem ptF_spec:∀ {f:Nat} {x:DvX} {a:Int} {s:Bs},s.length<=f->x.on=true->0<=a->a * 64 + s.length<=x.n * 64 ->
  (∃ y,ptF f x a s=(y,0)/\y.on=true/\y.es=x.es/\y.n=x.n/\y.ar=x.ar/\y.ws=x.ws++ckF f a s) \/
  (∃ y p,ptF f x a s=(y,14)/\x.ar=true/\y.on=false/\y.es=x.es/\y.n=x.n/\y.ws=x.ws++p/\∀ w ∈ p,w ∈ ckF f a s)
 | 0,x,a,s,_,hon,_,_=>.inl ⟨x,rfl,hon,rfl,rfl,rfl,by simp [ckF]⟩
 | f + 1,x,a,s,hl,hon,ha,hr=>by
  unfold ptF ckF
  by_cases hs:s=[]
  ·rw [if_pos hs,if_pos hs]
   exact .inl ⟨x,rfl,hon,rfl,rfl,rfl,by simp⟩
  ·have hp:0 < s.length:=List.length_pos_iff.2 hs
   have hw:=dvWr_in hon ⟨ha,by omega⟩ (pad64_len s)
   rw [if_neg hs,if_neg hs]
   cases hm:dvMay x with
   | false=>
    rw [hm,if_pos rfl] at hw
    rw [hw,if_neg (show ¬ ((14:Int)=0) by decide)]
    exact .inr ⟨_,[(a,pad64 s)],rfl,dvMay_ar hm,rfl,rfl,rfl,rfl,by simp⟩
   | true=>
    rw [hm,if_neg (by decide)] at hw
    rw [hw,if_pos rfl]
    rcases ptF_spec (f:=f) (x:=dvPut (dvStep x) (a,pad64 s)) (a:=a + 1) (s:=s.drop 64) (by rw [List.length_drop];omega) hon (by omega) (by
      rw [List.length_drop]
      show (a + 1) * 64 + ((s.length - 64:Nat):Int)<=x.n * 64
      by_cases h:64<=s.length
      ·omega
      ·rw [show s.length - 64=0 by omega]
       omega) with⟨y,h1,h2,h3,h4,h5,h6⟩|⟨y,p,h1,h2,h0,h3,h4,h5,h6⟩
    ·exact .inl ⟨y,h1,h2,h3,h4,h5,by rw [h6];simp [dvPut,dvStep]⟩
    ·refine .inr ⟨y,(a,pad64 s)::p,h1,h2,h0,h3,h4,by rw [h5];simp [dvPut,dvStep],fun w hw=>?_⟩
     rcases List.mem_cons.1 hw with rfl|hw
     ·exact List.mem_cons_self
     ·exact List.mem_cons_of_mem _ (h6 w hw)
def LgI (f:Int->Bs)(l:Bs):Prop:=∀ j:Nat,64 * j < l.length->(f (2 + (j:Int))).take (l.length - 64 * j)=(l.drop (64 * j)).take 64
structure MkI (f:Int->Bs)(m:MkX):Prop where
 e:0<=m.e/\m.e < 200
 b:MkB m
 at_:f (m.e % 2)=pkM m
 oth:∃ g:Nat,(f ((m.e + 1) % 2)).drop 56=be8 g/\g < 200/\((g:Int) < m.e\/g=0)
structure DFits (f:Int->Bs)(l:Bs)(m:MkX):Prop where
 len:∀ a,(f a).length=64
 lg:LgI f l
 mr:MkI f m
theorem unM_end {s:Bs}{m:MkX}(h:unM s=some m):s.drop 56=be8 m.e.toNat/\0<=m.e/\m.e<=1099511627776:=by
 have h1:=(pkM_parts m).2.2.2
 rw [unM_is h] at h1
 refine⟨h1,?_⟩
 unfold unM at h
 split at h
 ·rename_i hh
  injection h with h
  have h2:=hh.2.1
  rw [h] at h2
  unfold okM at h2
  have h3:=(of_decide_eq_true h2).1
  refine⟨?_,h3⟩
  rw [<- h]
  unfold rdM
  exact Int.natCast_nonneg _
 ·cases h
theorem oth_mark {s:Bs}{g:Nat}(hs:s.drop 56=be8 g)(hg:g < 200):((unM s).getD mk0).e=0\/((unM s).getD mk0).e=g:=by
 cases h:unM s with
 | none=>exact .inl rfl
 | some m=>
  right
  obtain⟨h1,h2,h3⟩:=unM_end h
  rw [hs] at h1
  have:=congrArg nm8 h1
  rw [nm8_be8 (by omega),nm8_be8 (by omega)] at this
  show m.e=g
  omega
theorem MkI.newest {f:Int->Bs}{m:MkX}(h:MkI f m):nwM (f 0) (f 1)=m:=by
 have he:=h.e
 have hu:unM (f (m.e % 2))=some m:=by rw [h.at_];exact un_pk h.b
 obtain⟨g,h1,h2,h3⟩:=h.oth
 have ho:=oth_mark h1 h2
 unfold nwM
 rcases (show m.e % 2=0\/m.e % 2=1 by omega) with h0|h0
 ·rw [h0] at hu
  rw [show (m.e + 1) % 2=1 by omega] at ho
  rw [hu]
  show (if m.e < _ then _ else m)=m
  rw [if_neg (by omega)]
 ·rw [h0] at hu
  rw [show (m.e + 1) % 2=0 by omega] at ho
  rw [hu]
  show (if _ < m.e then m else _)=m
  rw [if_pos (by omega)]
theorem LgI.sec {x:DvX}{l:Bs}(hx:DvOk x)(h:LgI (dvRd x) l):∀ k,(dvSec x k).take l.length=l.take (64 * k)
 | 0=>by simp [dvSec]
 | k + 1=>by
  rw [dvSec_succ]
  by_cases hk:l.length<=64 * k
  ·rw [List.take_append_of_le_length (by rw [dvSec_len hx];exact hk),LgI.sec hx h k,List.take_of_length_le hk,List.take_of_length_le (by omega)]
  ·rw [List.take_append,LgI.sec hx h k,dvSec_len hx,h k (by omega),show 64 * (k + 1)=64 * k + 64 by omega,List.take_add]
theorem logD_is {x:DvX}{l:Bs}(hx:DvOk x)(h:LgI (dvRd x) l):logD x l.length=l:=by
 unfold logD nSec
 rw [Int.toNat_natCast,LgI.sec hx h,List.take_of_length_le (by omega)]
theorem dvRd_nil {x:DvX}(h:x.ws=[]):dvRd x=dvSafe x:=by
 funext a
 unfold dvRd
 rw [h]
 rfl
theorem op_fits {x:DvX}{l:List Bs}{m:MkX}(hx:DvOk x)(hon:x.on=true)(hws:x.ws=[])(h:DFits (dvSafe x) (logB l) m)(hb:m.b=(logB l).length)(hc:m.c=l.length)(hr:m.b<=roomD x.n)(hn:2 < x.n)(hl:∀ s ∈ l,s.length<=1048576) :
  opnE x=0/\opS x=⟨m,logB l,false⟩/\opR x=l:=by
 have hd:=dvRd_nil hws
 have h1:newD x=m:=by unfold newD;rw [hd];exact h.mr.newest
 have h2:logD x m.b=logB l:=by rw [hb];exact logD_is hx (by rw [hd];exact h.lg)
 obtain⟨a1,a2⟩:=al_recs hl
 unfold opnE opS opR
 rw [h1,h2,a1,a2,if_neg (by omega),if_neg (by rw [hon];decide),if_neg (by omega),if_pos ⟨rfl,hc.symm⟩]
 exact⟨rfl,rfl,rfl⟩
theorem tear_lg {f:Int->Bs}{l:Bs}{j c:Nat}{s:Bs}(hf:∀ a,(f a).length=64)(h:LgI f l)(hs:s.length=64)(hw:64 * j < l.length->s.take (l.length - 64 * j)=(l.drop (64 * j)).take 64):LgI (upF f (2 + (j:Int)) (tn c s (f (2 + (j:Int))))) l:=by
 intro i hi
 unfold upF
 by_cases e:i=j
 ·subst e
  rw [if_pos rfl,tn_take (by rw [hs,hf]) ((hw hi).trans (h i hi).symm),hw hi]
 ·rw [if_neg (by omega)]
  exact h i hi
theorem upF_len {f:Int->Bs}{a:Int}{s:Bs}{c:Nat}(hf:∀ a,(f a).length=64)(hs:s.length=64):∀ b,(upF f a (tn c s (f a)) b).length=64:=by
 intro b
 unfold upF
 split
 ·rw [tn_len (by rw [hs,hf]),hf]
 ·exact hf b
theorem upF_mk {f:Int->Bs}{a:Int}{s:Bs}{m:MkX}(ha:2<=a)(h:MkI f m):MkI (upF f a s) m:=by
 have he:=h.e
 refine⟨h.e,h.b,?_,?_⟩
 ·unfold upF
  rw [if_neg (by omega)]
  exact h.at_
 ·unfold upF
  rw [if_neg (by omega)]
  exact h.oth
theorem upF_lg {f:Int->Bs}{a:Int}{s:Bs}{l:Bs}(ha:a < 2)(h:LgI f l):LgI (upF f a s) l:=by
 intro j hj
 unfold upF
 rw [if_neg (by omega)]
 exact h j hj
theorem be8_small {n:Nat}(h:n < 256):be8 n=(dgs 0 7).reverse++[UInt8.ofNat n]:=by
 have:∀ n,n < 256->be8 n=(dgs 0 7).reverse++[UInt8.ofNat n]:=by decide +kernel
 exact this n h
theorem be8_mix {a b c:Nat}(ha:a < 256)(hb:b < 256)(hc:c<=7):(be8 a).take c++(be8 b).drop c=be8 b:=by
 have hl:(dgs 0 7).reverse.length=7:=by simp [dgs_len]
 rw [be8_small ha,be8_small hb]
 generalize (dgs 0 7).reverse=z at *
 rw [List.take_append_of_le_length (by omega),List.drop_append_of_le_length (by omega),<- laa,List.take_append_drop]
theorem tear_mk {f:Int->Bs}{m m':MkX}{c:Nat}(hf:∀ a,(f a).length=64)(h:MkI f m)(hb:MkB m')(he:m'.e=m.e + 1)(h2:m'.e < 200) :
  MkI (upF f (m'.e % 2) (tn c (pkM m') (f (m'.e % 2)))) m\/MkI (upF f (m'.e % 2) (tn c (pkM m') (f (m'.e % 2)))) m':=by
 have h0:=h.e
 have hl:=pkM_len m'
 by_cases hc:64<=c
 ·right
  have e1:tn c (pkM m') (f (m'.e % 2))=pkM m':=by
   unfold tn
   rw [List.take_of_length_le (by omega),List.drop_of_length_le (by rw [hf];omega),List.append_nil]
  rw [e1]
  refine⟨by omega,hb,by unfold upF;rw [if_pos rfl],m.e.toNat,?_,by omega,.inl (by omega)⟩
  unfold upF
  rw [if_neg (by omega),show (m'.e + 1) % 2=m.e % 2 by omega,h.at_]
  exact (pkM_parts m).2.2.2
 ·left
  obtain⟨g,h3,h4,h5⟩:=h.oth
  refine⟨h.e,h.b,?_,g,?_,h4,h5⟩
  ·unfold upF
   rw [if_neg (by omega)]
   exact h.at_
  ·unfold upF
   rw [if_pos (by omega)]
   have hm:m'.e % 2=(m.e + 1) % 2:=by omega
   rw [hm]
   have hG:=hf ((m.e + 1) % 2)
   generalize f ((m.e + 1) % 2)=G at h3 hG ⊢
   unfold tn
   rw [List.drop_append,List.length_take,hl]
   by_cases h56:c<=56
   ·rw [List.drop_of_length_le (by rw [List.length_take];omega),List.nil_append,List.drop_drop,show c + (56 - min c 64)=56 by omega,h3]
   ·have e1:G.drop c=(be8 g).drop (c - 56):=by
     rw [<- h3,List.drop_drop]
     congr 1
     omega
    rw [show 56 - min c 64=0 by omega,List.drop_zero,List.drop_take,(pkM_parts m').2.2.2,e1]
    exact be8_mix (by omega) (by omega) (by omega)

theorem copyB_pad (r:Bs):copyB (List.replicate 64 0) r=pad64 r:=by
 unfold copyB pad64
 rw [List.length_replicate,List.drop_replicate]
theorem dvWr_ws {x:DvX}{a:Int}{s:Bs}:(dvWr x a s).1.ws.length<=x.ws.length + 1:=by
 unfold dvWr
 (repeat' split) <;> simp [dvPut,dvStep,dvOff]
set_option maxHeartbeats 2000000 in
theorem fnSlPuts {I:SlI}{x:DvX}{s:SlX}{l:Bs}(hx:DvOk x)(hb:0<=s.m.b/\s.m.b<=1000000)(hl:x.ws.length + l.length<=1000000):Av.Spec Tryz.prog GL 69 [ptr I.gs,str l] (slM I x s)
  fun u m=>u=int (ptD x (2 + s.m.b / 64) l).2/\∃ v,m=slM { I with vw:=v } (ptD x (2 + s.m.b / 64) l).1 s:=by
 refine qE Tryz.func69 rfl Tryz.ntmps69 rfl (fun _ hs=>?_)
 repeat' first|refine Zz ?_|intro _
 refine ac_loop (α:=DvX × Value × Int × Bs) (fun z=>[(0,ptr I.gs),(1,str z.2.2.2),(5,int z.2.2.1)]) (fun z=>slM { I with vw:=z.2.1 } z.1 s)
  (fun z=>DvOk z.1/\ptD z.1 z.2.2.1 z.2.2.2=ptD x (2 + s.m.b / 64) l/\z.1.ws.length + z.2.2.2.length<=1000000/\z.2.2.1 + z.2.2.2.length<=3000000/\0<=z.2.2.1) (fun z=>z.2.2.2.length) (x,I.vw,2 + s.m.b / 64,l) ⟨rfl,rfl,rfl,trivial⟩ slr ⟨hx,rfl,hl,by dsimp only;omega,by dsimp only;omega⟩ ?_
 rintro⟨y,v,a,r⟩ ⟨hy,he,hw,ha,ha0⟩
 dsimp only at hy he hw ha ha0 ⊢
 by_cases hr:r=[]
 ·subst hr
  rw [show ptD y a []=(y,0) from rfl] at he
  rw [<- he]
  repeat' first|refine Zz ?_|intro _
  exact reK _ ⟨rfl,v,rfl⟩ slr
 have hlr:0 < r.length:=List.length_pos_iff.2 hr
 have hdl:(r.drop 64).length=r.length - 64:=List.length_drop
 repeat' first|refine Zz ?_|intro _
 rename_i g6
 refine al_copyS (l:=List.replicate 64 0) (a:=r) rfl ?_
 rw [copyB_pad]
 repeat' first|refine Zz ?_|intro _
 refine al_sliceS (min r.length 64) r.length ?_ (h4:=Nat.le_refl _)
 rw [List.take_length,show r.drop (min r.length 64)=r.drop 64 by
  by_cases h:r.length<=64
  ·rw [Nat.min_eq_left h,List.drop_length,List.drop_of_length_le h]
  ·rw [Nat.min_eq_right (by omega)]]
 repeat' first|refine Zz ?_|intro _
 apply obl_read [0];exact rfl;exact rfl;kernel_rfl
 ·intro _ _
  refine al_strA (l:=pad64 r) ?_
  exact al_nil (ae_got rfl rfl)
 apply obl_fresh [2,3,4];exact rfl;exact rfl;kernel_rfl;kernel_rfl
 intro _ _
 refine al_callW (fnDvWrite (I:={ I.toDvI with vw:=v }) (x:=y) (a:=a) (s:=pad64 r) hy.lf (by omega)) (fun u m1 hu=>?_)
 obtain⟨rfl,v',rfl⟩:=hu
 refine al_nil (ae_fresh (dvM { I.toDvI with vw:=v' } (dvWr y a (pad64 r)).1) [] rfl rfl lpr rfl ?_)
 have hy2:DvOk (dvWr y a (pad64 r)).1:=dvWr_ok hy
 have hw2:=dvWr_ws (x:=y) (a:=a) (s:=pad64 r)
 rw [ptD_step hr] at he
 by_cases hz:(dvWr y a (pad64 r)).2=0
 ·rw [if_pos hz] at he
  rw [hz]
  repeat' first|refine Zz ?_|intro _
  refine ae_ord (slM { I with vw:=v' } (dvWr y a (pad64 r)).1 s) _ ?_ lpr (List.sublist_cons_self _ _)
  exact ae_round ((dvWr y a (pad64 r)).1,v',a + 1,r.drop 64) ⟨rfl,rfl,rfl,trivial⟩ slr ⟨hy2,he,by dsimp only;omega,by dsimp only;omega,by dsimp only;omega⟩ (by dsimp only;omega)
 ·rw [if_neg hz] at he
  rw [<- he]
  repeat' first|refine Zz ?_|intro _
  refine ae_ord (slM { I with vw:=v' } (dvWr y a (pad64 r)).1 s) _ ?_ lpr (List.sublist_cons_self _ _)
  exact reK _ ⟨rfl,v',rfl⟩ slr
theorem ptF_ws:∀ {f:Nat} {x:DvX} {a:Int} {s:Bs},(ptF f x a s).1.ws.length<=x.ws.length + f
 | 0,_,_,_=>Nat.le_refl _
 | f + 1,x,a,s=>by
  unfold ptF
  have h1:=dvWr_ws (x:=x) (a:=a) (s:=pad64 s)
  split
  ·exact Nat.le_add_right _ _
  split
  ·have:=ptF_ws (f:=f) (x:=(dvWr x a (pad64 s)).1) (a:=a + 1) (s:=s.drop 64)
   omega
  ·omega
theorem ptD_ws {x:DvX}{a:Int}{s:Bs}:(ptD x a s).1.ws.length<=x.ws.length + s.length:=ptF_ws
theorem dvFlush_ws {x:DvX}:(dvFlush x).1.ws.length<=x.ws.length:=by
 unfold dvFlush
 (repeat' split) <;> simp [dvOff,dvFl,dvStep]
theorem fnSlC1 {I:SlI}{x:DvX}{s:SlX}{g2:Nat}{T2:TypeId}{A:List Av.Piece}(hlf:0<=x.lf/\x.lf<=1000000)(hl:x.ws.length<=1000000):Av.Spec Tryz.prog GL 65 [ptr g2] (slM I x s++(.var g2 T2 (ptr I.gs)::A))
  fun u m=>u=int (dvFlush x).2/\∃ v,m=slM { I with vw:=v } (dvFlush x).1 s++(.var g2 T2 (ptr I.gs)::A):=by
 refine qE Tryz.func65 rfl Tryz.ntmps65 rfl (fun _ hs=>?_)
 repeat' first|refine Zz ?_|intro _
 refine al_callF [_] (dvM I.toDvI x) (.var g2 T2 (ptr I.gs)::A) (fnDvFlush hlf hl) (fun u m1 hu=>?_)
 obtain⟨rfl,v,rfl⟩:=hu
 repeat' first|refine Zz ?_|intro _
 exact reK _ ⟨rfl,v,rfl⟩ slr
theorem fnSlC2 {I:SlI}{x:DvX}{s:SlX}{g2 g7:Nat}{T2 T7:TypeId}{l:Bs}{A:List Av.Piece}(hx:DvOk x)(hb:0<=s.m.b/\s.m.b<=1000000)(hl:x.ws.length + l.length<=1000000):Av.Spec Tryz.prog GL 68 [ptr g2,ptr g7] (slM I x s++(.var g2 T2 (ptr I.gs)::.var g7 T7 (str l)::A))
  fun u m=>u=int (ptD x (2 + s.m.b / 64) l).2/\∃ v,m=slM { I with vw:=v } (ptD x (2 + s.m.b / 64) l).1 s++(.var g2 T2 (ptr I.gs)::.var g7 T7 (str l)::A):=by
 refine qE Tryz.func68 rfl Tryz.ntmps68 rfl (fun _ hs=>?_)
 repeat' first|refine Zz ?_|intro _
 refine al_callF [] (slM I x s) (.var g2 T2 (ptr I.gs)::.var g7 T7 (str l)::A) (fnSlPuts hx hb hl) (fun u m1 hu=>?_)
 obtain⟨rfl,v,rfl⟩:=hu
 repeat' first|refine Zz ?_|intro _
 exact reK _ ⟨rfl,v,rfl⟩ slr
theorem fnSlC3 {I:SlI}{x:DvX}{s:SlX}{g2 g7 g8:Nat}{T2 T7:TypeId}{l:Bs}{M:MkX}(hM:MkB M)(hlf:0<=x.lf/\x.lf<=1000000)(hl:x.ws.length<=1000000):Av.Spec Tryz.prog GL 70 [ptr g2,ptr g8] (slM I x s++[.var g2 T2 (ptr I.gs),.var g7 T7 (str l),.var g8 119 (mkA M)])
  fun u m=>u=int (dvWr x (M.e % 2) (pkM M)).2/\∃ v,m=slM { I with vw:=v } (dvWr x (M.e % 2) (pkM M)).1 s++[.var g2 T2 (ptr I.gs),.var g7 T7 (str l),.var g8 119 (mkA M)]:=by
 have he:=hM.e
 refine qE Tryz.func70 rfl Tryz.ntmps70 rfl (fun _ hs=>?_)
 repeat' first|refine Zz ?_|intro _
 apply obl_fresh [1,2,3];exact rfl;exact rfl;kernel_rfl;kernel_rfl
 intro _ _
 refine al_callW (fnDvWrite (I:=I.toDvI) (x:=x) (a:=M.e % 2) (s:=pkM M) hlf hl) (fun u m1 hu=>?_)
 obtain⟨rfl,v,rfl⟩:=hu
 refine al_nil (ae_fresh (dvM { I.toDvI with vw:=v } (dvWr x (M.e % 2) (pkM M)).1) [] rfl rfl lpr rfl ?_)
 repeat' first|refine Zz ?_|intro _
 exact reK _ ⟨rfl,v,rfl⟩ slr
def cmX (x:DvX)(s:SlX)(r:Bs):Nat->DvX
 | 0=>x
 | 1=>(cm1 x s r).1
 | 2=>(cm2 x s r).1
 | 3=>(cm3 x s r).1
 | _=>(cm4 x s r).1
def dsE (x:DvX)(s:SlX)(r:Bs):DvX × Int:=if (cm1 x s r).2≠0 then cm1 x s r else if (cm2 x s r).2≠0 then cm2 x s r else if (cm3 x s r).2≠0 then cm3 x s r else cm4 x s r
abbrev cmB (T2 T7:TypeId)(g2 g7 g8:Nat)(gs:Nat)(l:Bs)(M:MkX):List Av.Piece:=[.var g2 T2 (ptr gs),.var g7 T7 (str l),.var g8 119 (mkA M)]
abbrev cmF (g2 g7 g8:Nat):List AV:=[fnv 68 [.pointer (some ⟨g2,0,none⟩),.pointer (some ⟨g7,0,none⟩)],fnv 65 [.pointer (some ⟨g2,0,none⟩)],
 fnv 70 [.pointer (some ⟨g2,0,none⟩),.pointer (some ⟨g8,0,none⟩)],fnv 65 [.pointer (some ⟨g2,0,none⟩)]]
set_option maxHeartbeats 4000000 in
theorem fnSlDoes {I:SlI}{x:DvX}{s:SlX}{r:Bs}{g2 g7 g8:Nat}{T2 T7:TypeId}(hx:DvOk x)(hb:0<=s.m.b/\s.m.b<=1000000)(hM:MkB (cmM s r))(hl:x.ws.length + (endS s.l++recB r).length + 1<=1000000)(hbr:s.br=false) :
  Av.Spec Tryz.prog GL 67 [ptr I.gs,.sl 1 (cmF g2 g7 g8) none] (slM I x s++cmB T2 T7 g2 g7 g8 I.gs (endS s.l++recB r) (cmM s r))
  fun u m=>u=int (dsE x s r).2/\∃ v,m=slM { I with vw:=v } (dsE x s r).1 { s with br:=decide ((dsE x s r).2≠0) }++cmB T2 T7 g2 g7 g8 I.gs (endS s.l++recB r) (cmM s r):=by
 have h1:DvOk (cm1 x s r).1:=ptD_ok hx
 have h2:DvOk (cm2 x s r).1:=dvFlush_ok h1
 have h3:DvOk (cm3 x s r).1:=dvWr_ok h2
 have w1:(cm1 x s r).1.ws.length<=x.ws.length + (endS s.l++recB r).length:=ptD_ws
 have w2:(cm2 x s r).1.ws.length<=(cm1 x s r).1.ws.length:=dvFlush_ws
 have w3:(cm3 x s r).1.ws.length<=(cm2 x s r).1.ws.length + 1:=dvWr_ws
 have hcs1:∀ v ∈ [Value.pointer (some ⟨g2,0,none⟩),.pointer (some ⟨g7,0,none⟩)],v.oneCell'=true:=by simp [Value.oneCell']
 have hcs2:∀ v ∈ [Value.pointer (some ⟨g2,0,none⟩)],v.oneCell'=true:=by simp [Value.oneCell']
 have hcs3:∀ v ∈ [Value.pointer (some ⟨g2,0,none⟩),.pointer (some ⟨g8,0,none⟩)],v.oneCell'=true:=by simp [Value.oneCell']
 have hs0:({ s with br:=false }:SlX)=s:=by rw [<- hbr]
 generalize hlL:endS s.l++recB r=L at hl w1 ⊢
 generalize hlM:cmM s r=M at hM ⊢
 have c1:∀ v,Av.Spec Tryz.prog GL 68 [ptr g2,ptr g7] (slM { I with vw:=v } x s++cmB T2 T7 g2 g7 g8 I.gs L M) fun u m=>u=int (cm1 x s r).2/\∃ v,m=slM { I with vw:=v } (cm1 x s r).1 s++cmB T2 T7 g2 g7 g8 I.gs L M:=fun v=>by
  unfold cm1
  rw [hlL]
  exact fnSlC2 (I:={ I with vw:=v }) hx hb (by omega)
 have c2:∀ v,Av.Spec Tryz.prog GL 65 [ptr g2] (slM { I with vw:=v } (cm1 x s r).1 s++cmB T2 T7 g2 g7 g8 I.gs L M) fun u m=>u=int (cm2 x s r).2/\∃ v,m=slM { I with vw:=v } (cm2 x s r).1 s++cmB T2 T7 g2 g7 g8 I.gs L M:=fun v=>fnSlC1 (I:={ I with vw:=v }) h1.lf (by omega)
 have c3:∀ v,Av.Spec Tryz.prog GL 70 [ptr g2,ptr g8] (slM { I with vw:=v } (cm2 x s r).1 s++cmB T2 T7 g2 g7 g8 I.gs L M) fun u m=>u=int (cm3 x s r).2/\∃ v,m=slM { I with vw:=v } (cm3 x s r).1 s++cmB T2 T7 g2 g7 g8 I.gs L M:=fun v=>by
  unfold cm3
  rw [hlM]
  exact fnSlC3 (I:={ I with vw:=v }) hM h2.lf (by omega)
 have c4:∀ v,Av.Spec Tryz.prog GL 65 [ptr g2] (slM { I with vw:=v } (cm3 x s r).1 s++cmB T2 T7 g2 g7 g8 I.gs L M) fun u m=>u=int (cm4 x s r).2/\∃ v,m=slM { I with vw:=v } (cm4 x s r).1 s++cmB T2 T7 g2 g7 g8 I.gs L M:=fun v=>fnSlC1 (I:={ I with vw:=v }) h3.lf (by omega)
 refine qE Tryz.func67 rfl Tryz.ntmps67 rfl (fun _ hs=>?_)
 repeat' first|refine Zz ?_|intro _
 refine ac_loop (α:=Nat × Value) (fun z=>[(0,ptr I.gs),(8,.sl 1 (cmF g2 g7 g8) none),(9,int 4),(10,int z.1)]) (fun z=>slM { I with vw:=z.2 } (cmX x s r z.1) s++cmB T2 T7 g2 g7 g8 I.gs L M)
  (fun z=>z.1<=4/\(1<=z.1->(cm1 x s r).2=0)/\(2<=z.1->(cm2 x s r).2=0)/\(3<=z.1->(cm3 x s r).2=0)/\(4<=z.1->(cm4 x s r).2=0)) (fun z=>4 - z.1) (0,I.vw) ⟨rfl,rfl,rfl,rfl,trivial⟩ slr
  ⟨Nat.zero_le _,fun h=>absurd h (by dsimp only;omega),fun h=>absurd h (by dsimp only;omega),fun h=>absurd h (by dsimp only;omega),fun h=>absurd h (by dsimp only;omega)⟩ ?_
 rintro⟨i,v⟩ ⟨hi,f1,f2,f3,f4⟩
 dsimp only at hi f1 f2 f3 f4 ⊢
 rcases i with _|_|_|_|_|i
 ·skip
  repeat' first|refine Zz ?_|intro _
  refine al_callVW (args:=[]) (cs:=[.pointer (some ⟨g2,0,none⟩),.pointer (some ⟨g7,0,none⟩)]) (c1 v) (fun u m1 hu=>?_) (hcs:=hcs1)
  obtain⟨rfl,v',rfl⟩:=hu
  by_cases he:(cm1 x s r).2=0
  ·repeat' first|refine Zz ?_|intro _
   exact ae_round (1,v') ⟨rfl,rfl,rfl,rfl,trivial⟩ slr ⟨by dsimp only;omega,fun _=>he,fun h=>absurd h (by dsimp only;omega),fun h=>absurd h (by dsimp only;omega),fun h=>absurd h (by dsimp only;omega)⟩ (by dsimp only;omega)
  ·have hd:dsE x s r=cm1 x s r:=by unfold dsE;rw [if_pos he]
   rw [hd,dT he]
   repeat' first|refine Zz ?_|intro _
   exact reK _ ⟨rfl,v',rfl⟩ slr
 ·skip
  have e1:=f1 (by omega)
  repeat' first|refine Zz ?_|intro _
  refine al_callVW (args:=[]) (cs:=[.pointer (some ⟨g2,0,none⟩)]) (c2 v) (fun u m1 hu=>?_) (hcs:=hcs2)
  obtain⟨rfl,v',rfl⟩:=hu
  by_cases he:(cm2 x s r).2=0
  ·repeat' first|refine Zz ?_|intro _
   exact ae_round (2,v') ⟨rfl,rfl,rfl,rfl,trivial⟩ slr ⟨by dsimp only;omega,fun _=>e1,fun _=>he,fun h=>absurd h (by dsimp only;omega),fun h=>absurd h (by dsimp only;omega)⟩ (by dsimp only;omega)
  ·have hd:dsE x s r=cm2 x s r:=by unfold dsE;rw [if_neg (nni e1)];rw [if_pos he]
   rw [hd,dT he]
   repeat' first|refine Zz ?_|intro _
   exact reK _ ⟨rfl,v',rfl⟩ slr
 ·skip
  have e1:=f1 (by omega)
  have e2:=f2 (by omega)
  repeat' first|refine Zz ?_|intro _
  refine al_callVW (args:=[]) (cs:=[.pointer (some ⟨g2,0,none⟩),.pointer (some ⟨g8,0,none⟩)]) (c3 v) (fun u m1 hu=>?_) (hcs:=hcs3)
  obtain⟨rfl,v',rfl⟩:=hu
  by_cases he:(cm3 x s r).2=0
  ·repeat' first|refine Zz ?_|intro _
   exact ae_round (3,v') ⟨rfl,rfl,rfl,rfl,trivial⟩ slr ⟨by dsimp only;omega,fun _=>e1,fun _=>e2,fun _=>he,fun h=>absurd h (by dsimp only;omega)⟩ (by dsimp only;omega)
  ·have hd:dsE x s r=cm3 x s r:=by unfold dsE;rw [if_neg (nni e1)];rw [if_neg (nni e2)];rw [if_pos he]
   rw [hd,dT he]
   repeat' first|refine Zz ?_|intro _
   exact reK _ ⟨rfl,v',rfl⟩ slr
 ·skip
  have e1:=f1 (by omega)
  have e2:=f2 (by omega)
  have e3:=f3 (by omega)
  repeat' first|refine Zz ?_|intro _
  refine al_callVW (args:=[]) (cs:=[.pointer (some ⟨g2,0,none⟩)]) (c4 v) (fun u m1 hu=>?_) (hcs:=hcs2)
  obtain⟨rfl,v',rfl⟩:=hu
  by_cases he:(cm4 x s r).2=0
  ·repeat' first|refine Zz ?_|intro _
   exact ae_round (4,v') ⟨rfl,rfl,rfl,rfl,trivial⟩ slr ⟨by dsimp only;omega,fun _=>e1,fun _=>e2,fun _=>e3,fun _=>he⟩ (by dsimp only;omega)
  ·have hd:dsE x s r=cm4 x s r:=by unfold dsE;rw [if_neg (nni e1)];rw [if_neg (nni e2)];rw [if_neg (nni e3)]
   rw [hd,dT he]
   repeat' first|refine Zz ?_|intro _
   exact reK _ ⟨rfl,v',rfl⟩ slr
 ·have e1:=f1 (by omega)
  have e2:=f2 (by omega)
  have e3:=f3 (by omega)
  have e4:=f4 (by omega)
  have hd:dsE x s r=cm4 x s r:=by unfold dsE;rw [if_neg (nni e1),if_neg (nni e2),if_neg (nni e3)]
  rw [hd,e4,dZ (by decide),hs0]
  repeat' first|refine Zz ?_|intro _
  exact reK _ ⟨rfl,v,rfl⟩ slr
 ·omega

theorem dvSafe_es {x y:DvX}(h:y.es=x.es):dvSafe y=dvSafe x:=by
 funext a
 unfold dvSafe
 rw [h]
theorem crash_f {x:DvX}{k:List Bool}{torn cut:Int}(hn:x.n≠0):(dvCrash x k torn cut).on=true/\(dvCrash x k torn cut).ws=[]/\(dvCrash x k torn cut).n=x.n/\(dvCrash x k torn cut).ar=false:=by
 unfold dvCrash
 rw [if_neg hn]
 exact⟨rfl,rfl,(crF_f _ _ _).1,rfl⟩
theorem endS_len2 (l:Bs):(endS l).length < 64:=by
 unfold endS
 rw [List.length_drop]
 omega
theorem chunk_old {l r:Bs}{j:Nat}(hj:64 * (l.length / 64 + j) < l.length):(pad64 ((endS l++r).drop (64 * j))).take (l.length - 64 * (l.length / 64 + j))=(l.drop (64 * (l.length / 64 + j))).take 64:=by
 obtain rfl:j=0:=by omega
 have he:l.length - 64 * (l.length / 64 + 0)=(endS l).length:=by
  unfold endS
  rw [List.length_drop]
  omega
 have hd:l.drop (64 * (l.length / 64 + 0))=endS l:=by
  unfold endS
  congr 1
  omega
 have hl:=endS_len2 l
 rw [he,hd,Nat.mul_zero,List.drop_zero,pad64_take (by rw [lla];omega) (by omega),List.take_left,List.take_of_length_le (by omega)]
theorem chunk_new {l r:Bs}{j:Nat}:(pad64 ((endS l++r).drop (64 * j))).take ((l++r).length - 64 * (l.length / 64 + j))=((l++r).drop (64 * (l.length / 64 + j))).take 64:=by
 have hd:(l++r).drop (64 * (l.length / 64 + j))=(endS l++r).drop (64 * j):=by
  have h1:(l++r).drop (64 * (l.length / 64))=endS l++r:=by
   rw [List.drop_append_of_le_length (by omega)]
   unfold endS
   congr 2
   omega
  rw [show 64 * (l.length / 64 + j)=64 * (l.length / 64) + 64 * j by omega,<- List.drop_drop,h1]
 rw [hd]
 have hl:((endS l++r).drop (64 * j)).length=(l++r).length - 64 * (l.length / 64 + j):=by
  rw [<- hd,List.length_drop]
 rw [<- hl,pad64_all]
section
variable {x:DvX} {s:SlX} {r:Bs}
structure LogOk (x:DvX)(s:SlX):Prop where
 dv:DvOk x
 on:x.on=true
 ws:x.ws=[]
 fit:DFits (dvSafe x) s.l s.m
 b:s.m.b=s.l.length
 rm:s.m.b<=roomD x.n
 n:3<=x.n
 br:s.br=false
 e:s.m.e < 190
 c:0<=s.m.c/\s.m.c<=1000
def Old (y:DvX)(s s':SlX):Prop:=DvOk y/\∀ k torn cut,DFits (dvSafe (dvCrash y k torn cut)) s.l s.m\/DFits (dvSafe (dvCrash y k torn cut)) s'.l s'.m
def nxS (s:SlX)(r:Bs):SlX:=⟨cmM s r,s.l++recB r,false⟩
theorem old_log {y:DvX}(h:LogOk x s)(hy:DvOk y)(he:y.es=x.es)(hw:∀ w ∈ y.ws,w ∈ ckF (endS s.l++recB r).length (2 + s.m.b / 64) (endS s.l++recB r)):Old y s (nxS s r):=by
 refine⟨hy,fun k torn cut=>.inl ?_⟩
 refine dvCrash_inv (fun f=>DFits f s.l s.m) hy ?_ ?_
 ·intro w hm f c hf hP
  obtain⟨j,rfl,hj⟩:=ckF_mem (hw w hm)
  have ha:(2 + s.m.b / 64 + (j:Int))=2 + ((s.l.length / 64 + j:Nat):Int):=by
   rw [h.b]
   omega
  dsimp only
  rw [ha]
  exact⟨upF_len hf (pad64_len _),tear_lg hf hP.lg (pad64_len _) chunk_old,upF_mk (by omega) hP.mr⟩
 ·rw [dvSafe_es he]
  exact h.fit
theorem nx_mk (h:LogOk x s)(hr:(recB r).length<=roomD x.n - s.m.b):MkB (cmM s r):=by
 have h1:=h.fit.mr.e
 have h2:=h.b
 have h3:=h.c
 have h4:=h.e
 have h5:=h.dv.n
 have h6:roomD x.n=(x.n - 2) * 64:=rfl
 exact⟨by unfold cmM;dsimp only;omega,by unfold cmM;dsimp only;omega,by unfold cmM;dsimp only;omega⟩
theorem old_mark {z y:DvX}(h:LogOk x s)(hr:(recB r).length<=roomD x.n - s.m.b)(hz:DFits (dvSafe z) (s.l++recB r) s.m)(hy:DvOk y)(he:dvSafe y=dvSafe z)(hw:∀ w ∈ y.ws,w=((cmM s r).e % 2,pkM (cmM s r))):Old y s (nxS s r):=by
 refine⟨hy,fun k torn cut=>?_⟩
 have hB:=nx_mk h hr
 have hE:(cmM s r).e=s.m.e + 1:=rfl
 have hpre:∀ {f:Int->Bs},LgI f (s.l++recB r)->LgI f s.l:=by
  intro f hf j hj
  have h1:=hf j (by rw [lla];omega)
  have h2:=congrArg (List.take (s.l.length - 64 * j)) h1
  rw [List.take_take,lla,Nat.min_eq_left (by omega),List.take_take,List.drop_append_of_le_length (by omega)] at h2
  rw [h2]
  by_cases hh:s.l.length - 64 * j<=64
  ·rw [Nat.min_eq_left hh,List.take_append_of_le_length (by rw [List.length_drop];omega),List.take_of_length_le (by rw [List.length_drop];omega),List.take_of_length_le (by rw [List.length_drop];omega)]
  ·rw [Nat.min_eq_right (by omega),List.take_append_of_le_length (by rw [List.length_drop];omega)]
 have key:(∀ a,(dvSafe (dvCrash y k torn cut) a).length=64)/\LgI (dvSafe (dvCrash y k torn cut)) (s.l++recB r)/\(MkI (dvSafe (dvCrash y k torn cut)) s.m\/MkI (dvSafe (dvCrash y k torn cut)) (cmM s r)):=by
  refine dvCrash_inv (fun f=>(∀ a,(f a).length=64)/\LgI f (s.l++recB r)/\(MkI f s.m\/MkI f (cmM s r))) hy ?_ ?_
  ·intro w hm f c hf hP
   obtain rfl:=hw w hm
   dsimp only
   refine⟨upF_len hf (pkM_len _),upF_lg (by omega) hP.2.1,?_⟩
   rcases hP.2.2 with hm|hm
   ·exact tear_mk hf hm hB hE (by have:=h.e;omega)
   ·right
    have e1:tn c (pkM (cmM s r)) (f ((cmM s r).e % 2))=f ((cmM s r).e % 2):=by
     rw [hm.at_]
     unfold tn
     exact List.take_append_drop _ _
    have e2:upF f ((cmM s r).e % 2) (f ((cmM s r).e % 2))=f:=by
     funext b
     unfold upF
     split
     ·rename_i hb
      rw [hb]
     ·rfl
    rw [e1,e2]
    exact hm
  ·rw [he]
   exact⟨hz.len,hz.lg,.inl hz.mr⟩
 rcases key.2.2 with hm|hm
 ·exact .inl ⟨key.1,hpre key.2.1,hm⟩
 ·exact .inr ⟨key.1,key.2.1,hm⟩
end
end Go.Proofs.YtndhpgclmgpmoaaGreatDoor
