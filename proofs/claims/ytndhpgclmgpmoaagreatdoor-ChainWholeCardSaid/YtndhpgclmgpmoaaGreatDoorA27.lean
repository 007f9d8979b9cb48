/- a disk, walked: its parts -/
import Derived.Test.YtndhpgclmgpmoaaGreatDoorA14
import Derived.Test.YtndhpgclmgpmoaaGreatDoorA16
import Derived.Test.YtndhpgclmgpmoaaGreatDoorA22
import Derived.Test.YtndhpgclmgpmoaaGreatDoorA23
import Derived.Test.YtndhpgclmgpmoaaGreatDoorA24
import Derived.Test.YtndhpgclmgpmoaaGreatDoorA25
import Derived.Test.YtndhpgclmgpmoaaGreatDoorA26
namespace Go.Proofs.YtndhpgclmgpmoaaGreatDoor
open Go Go.RowKit Tw Av
theorem tlvT_cons {c:Int}{s:Bs}(h:s.length<=16777215):tlvT c s=UInt8.ofNat c.toNat::UInt8.ofNat (s.length / 65536)::UInt8.ofNat (s.length / 256)::UInt8.ofNat s.length::s:=by
 unfold tlvT tlvText
 rw [List.take_of_length_le (by simp [bodyLen];omega)]
theorem len3_of {n:Nat}(h:n<=16777215):len3 (UInt8.ofNat (n / 65536)) (UInt8.ofNat (n / 256)) (UInt8.ofNat n)=n:=by
 unfold len3
 rw [UInt8.toNat_ofNat',UInt8.toNat_ofNat',UInt8.toNat_ofNat']
 omega
theorem cut_tlvT {c most:Int}{s r:Bs}(h0:0<=c)(h1:c < 256)(h2:(s.length:Int)<=most)(h3:s.length<=16777215):cutT c most false (tlvT c s++r)=some (s,r):=by
 rw [tlvT_cons h3]
 simp only [List.cons_append]
 rw [cutT,len3_of h3,if_pos]
 ·simp
 ·refine⟨rfl,?_,h2,by simp⟩
  rw [UInt8.toNat_ofNat']
  omega
theorem rd_tlvT {c most:Int}{s r:Bs}(h0:0<=c)(h1:c < 256)(h2:(s.length:Int)<=most)(h3:s.length<=16777215):rtT c most (tlvT c s++r) false=s/\rsT c most (tlvT c s++r) false=r/\rbT c most (tlvT c s++r) false=false:=by
 have h:=cut_tlvT (r:=r) h0 h1 h2 h3
 unfold rtT rsT rbT
 rw [h]
 exact⟨rfl,rfl,rfl⟩
theorem digitsF_len:∀ f n,(digitsF f n).length<=f
 | 0,_=>Nat.le_refl _
 | f + 1,n=>by
  rw [digitsF]
  split
  ·simp
  ·have:=digitsF_len f (n / 256)
   simp
   omega
theorem digitsF_num:∀ f n,n < 256 ^ f->numOf (digitsF f n)=n
 | 0,n,h=>by simp at h;subst h;rfl
 | f + 1,n,h=>by
  rw [digitsF]
  split
  ·rename_i h0
   subst h0
   rfl
  ·rw [numOf_snoc,digitsF_num f (n / 256) (by rw [Nat.pow_succ] at h;omega),UInt8.toNat_ofNat']
   omega
theorem rd_tlvI {c most:Int}{n:Int}{r:Bs}(h0:0<=c)(h1:c < 256)(h2:0<=n)(h3:n<=most)(h4:most<=9223372036854775807):riI c most (tlvI c n++r) false=n/\rsT c 8 (tlvI c n++r) false=r/\riB c most (tlvI c n++r) false=false:=by
 have hd:(digits n.toNat).length<=8:=digitsF_len 8 _
 have hn:numOf (digits n.toNat)=n.toNat:=digitsF_num 8 _ (by show n.toNat < 18446744073709551616;omega)
 have hl:lead0 (digits n.toNat)=false:=digits_lead 8 _ (by show n.toNat < 18446744073709551616;omega)
 have h:=rd_tlvT (c:=c) (most:=8) (s:=digits n.toNat) (r:=r) h0 h1 (by omega) (by omega)
 have e:tlvI c n=tlvT c (digits n.toNat):=rfl
 have hN:rnN c (tlvI c n++r) false=n.toNat:=by
  rw [rnN_eq,e,h.1,hl,hn]
  rfl
 have hB:rnB c (tlvI c n++r) false=false:=by
  unfold rnB
  rw [e,h.1,h.2.2,hl]
  rfl
 refine⟨?_,by rw [e];exact h.2.1,?_⟩
 ·rw [riI,hN,if_neg (by omega)]
  omega
 ·rw [riB,hN,hB,dZ (by omega)]
  rfl
theorem bods_all {c most:Int}(h0:0<=c)(h1:c < 256):∀ (l:List Bs) (f:Nat),l.length < f->(∀ s ∈ l,(s.length:Int)<=most/\s.length<=16777215)->bods c most f (l.flatMap (tlvT c)) false=(l,false)
 | [],f,hf,_=>by
  rcases f with _|f
  ·omega
  ·exact bods_nil
 | s::l,f,hf,hl=>by
  rcases f with _|f
  ·omega
  rw [List.flatMap_cons]
  have h:=rd_tlvT (r:=l.flatMap (tlvT c)) h0 h1 (hl s (by simp)).1 (hl s (by simp)).2
  have ih:=bods_all h0 h1 l f (by simp at hf;omega) (fun t ht=>hl t (by simp [ht]))
  have hne:tlvT c s++l.flatMap (tlvT c)≠[]:=by rw [tlvT_cons (hl s (by simp)).2];simp
  rw [bods,if_neg (by simp [hne]),h.1,h.2.1,h.2.2,ih]
theorem flat_ge {c:Int}:∀ l:List Bs,l.length<=(l.flatMap (tlvT c)).length
 | []=>by simp
 | s::l=>by
  have:=flat_ge (c:=c) l
  have h2:4<=(tlvT c s).length:=by simp [tlvT,tlvText]
  rw [List.flatMap_cons,lla,List.length_cons]
  omega
theorem rd_tlvA {c many most:Int}{l:List Bs}{r:Bs}(h0:0<=c)(h1:c < 256)(h2:(l.length:Int)<=many)(h3:∀ s ∈ l,(s.length:Int)<=most/\s.length<=16777215)(h4:(l.flatMap (tlvT c)).length<=16777215):raL c many most (tlvA c l++r) false=l/\rsT c 16777215 (tlvA c l++r) false=r/\raB c many most (tlvA c l++r) false=false:=by
 have h:=rd_tlvT (c:=c) (most:=16777215) (s:=l.flatMap (tlvT c)) (r:=r) h0 h1 (by omega) h4
 have e:tlvA c l=tlvT c (l.flatMap (tlvT c)):=rfl
 have hX:allX c most (l.flatMap (tlvT c))=(l,false):=bods_all h0 h1 l _ (by have:=flat_ge (c:=c) l;omega) h3
 have hb:badA false (l,false) many=false:=by
  unfold badA
  rw [dZ (by show ¬ many < (l.length:Int);omega)]
  rfl
 refine⟨?_,by rw [e];exact h.2.1,?_⟩
 ·unfold raL
  rw [e,h.1,h.2.2,hX]
  unfold outA
  rw [hb]
  rfl
 ·unfold raB
  rw [e,h.1,h.2.2,hX,hb]
theorem flat_short {c:Int}{n:Nat}:∀ {l:List Bs},(∀ s ∈ l,s.length<=n)->n<=16777215->(l.flatMap (tlvT c)).length<=l.length * (n + 4)
 | [],_,_=>by simp
 | s::l,h,hn=>by
  have h1:=flat_short (c:=c) (l:=l) (fun t ht=>h t (by simp [ht])) hn
  have h2:=h s (by simp)
  rw [List.flatMap_cons,lla,List.length_cons,Nat.add_mul,tlvT_cons (by omega)]
  simp only [List.length_cons]
  omega

def smS (q:Nat × Nat)(c:UInt8):Nat × Nat:=((q.1 + c.toNat) % 65521,(q.2 + (q.1 + c.toNat) % 65521) % 65521)
def smF (s:Bs):Nat × Nat:=s.foldl smS (1,0)
def smN (s:Bs):Int:=((smF s).2 * 65536 + (smF s).1:Nat)
theorem smF_lt (s:Bs):(smF s).1 < 65521/\(smF s).2 < 65521:=by
 unfold smF
 suffices h:∀ (s:Bs) (q:Nat × Nat),q.1 < 65521/\q.2 < 65521->(s.foldl smS q).1 < 65521/\(s.foldl smS q).2 < 65521 from h s _ (by decide)
 intro s
 induction s with
 | nil=>exact fun q h=>h
 | cons c s ih=>exact fun q _=>ih _ ⟨Nat.mod_lt _ (by decide),Nat.mod_lt _ (by decide)⟩
theorem smN_rng (s:Bs):0<=smN s/\smN s<=4294967295:=by
 have:=smF_lt s
 unfold smN
 omega
def recB (s:Bs):Bs:=tlvT 82 s++tlvI 83 (smN (tlvT 82 s))
def tkA (s:Bs):Bs:=rsT 82 1048576 s false
def tkB (s:Bs):Bool:=rbT 82 1048576 s false
def tkT (s:Bs):Bs:=rtT 82 1048576 s false
def tkZ (s:Bs):Bs:=rsT 83 8 (tkA s) (tkB s)
def tkY (s:Bs):Bool:=riB 83 4294967295 (tkA s) (tkB s)
def tkN (s:Bs):Int:=riI 83 4294967295 (tkA s) (tkB s)
def tkOk (s:Bs):Bool:=!tkY s && decide (tkN s=smN (s.take (s.length - (tkA s).length)))
theorem rec_pos (s:Bs):4<=(recB s).length:=by
 unfold recB
 rw [lla]
 have:4<=(tlvT 82 s).length:=by
  unfold tlvT tlvText
  simp
 omega
theorem tk_rec {s r:Bs}(h:s.length<=1048576):tkOk (recB s++r)=true/\tkT (recB s++r)=s/\tkZ (recB s++r)=r:=by
 obtain⟨a1,a2,a3⟩:=rd_tlvT (c:=82) (most:=1048576) (s:=s) (r:=tlvI 83 (smN (tlvT 82 s))++r) (by decide) (by decide) (by omega) (by omega)
 have e:recB s++r=tlvT 82 s++(tlvI 83 (smN (tlvT 82 s))++r):=by unfold recB;rw [laa]
 have hs:=smN_rng (tlvT 82 s)
 obtain⟨b1,b2,b3⟩:=rd_tlvI (c:=83) (most:=4294967295) (n:=smN (tlvT 82 s)) (r:=r) (by decide) (by decide) hs.1 hs.2 (by decide)
 have hA:tkA (recB s++r)=tlvI 83 (smN (tlvT 82 s))++r:=by unfold tkA;rw [e,a2]
 have hB:tkB (recB s++r)=false:=by unfold tkB;rw [e,a3]
 refine⟨?_,by unfold tkT;rw [e,a1],by unfold tkZ;rw [hA,hB,b2]⟩
 unfold tkOk tkY tkN
 rw [hA,hB,b1,b3,e,lla,Nat.add_sub_cancel,List.take_left']
 ·rw [dT rfl]
  rfl
 ·rfl
theorem tk_dec {s:Bs}(h:tkOk s=true):(tkZ s).length < s.length:=by
 unfold tkOk at h
 rw [bet,Bool.not_eq_true'] at h
 have hb:tkB s=false:=by
  cases e:tkB s with
  | false=>rfl
  | true=>
   have:=h.1
   unfold tkY riB at this
   rw [e] at this
   simp [rnB,rbT,rbT_bad] at this
 have h1:=rsT_dec (c:=82) (most:=1048576) (s:=s) (b:=false) hb
 have h2:=(rsT_len 83 8 (tkA s) (tkB s)).1
 show (rsT 83 8 (tkA s) (tkB s)).length < s.length
 have:(tkA s).length < s.length:=h1
 omega
def alF:Nat->Bs->List Bs × Bs
 | 0,s=>([],s)
 | f + 1,s=>if tkOk s=true then (tkT s::(alF f (tkZ s)).1,(alF f (tkZ s)).2) else ([],s)
def alL (s:Bs):List Bs:=(alF (s.length + 1) s).1
def alR (s:Bs):Bs:=(alF (s.length + 1) s).2
def logB (l:List Bs):Bs:=l.flatMap recB
theorem tk_nil:tkOk []=false:=by kernel_rfl
theorem alF_recs:∀ (l:List Bs) (f:Nat),l.length < f->(∀ s ∈ l,s.length<=1048576)->alF f (logB l)=(l,[])
 | [],f,hf,_=>by
  rcases f with _|f
  ·omega
  ·show (if tkOk []=true then _ else _)=_
   rw [tk_nil]
   rfl
 | s::l,f,hf,h=>by
  rcases f with _|f
  ·omega
  ·have e:logB (s::l)=recB s++logB l:=rfl
   obtain⟨a,b,c⟩:=tk_rec (s:=s) (r:=logB l) (h s (by simp))
   have ih:=alF_recs l f (by simp at hf;omega) (fun t ht=>h t (by simp [ht]))
   rw [e,alF,a,b,c,ih]
   rfl
theorem logB_ge (l:List Bs):l.length<=(logB l).length:=by
 induction l with
 | nil=>exact Nat.zero_le _
 | cons s l ih=>
  have e:logB (s::l)=recB s++logB l:=rfl
  have:=rec_pos s
  rw [e,lla,List.length_cons]
  omega
theorem al_recs {l:List Bs}(h:∀ s ∈ l,s.length<=1048576):alL (logB l)=l/\alR (logB l)=[]:=by
 have:=alF_recs l ((logB l).length + 1) (Nat.lt_succ_of_le (logB_ge l)) h
 unfold alL alR
 rw [this]
 exact⟨rfl,rfl⟩

structure SlX where
 m:MkX
 l:Bs
 br:Bool
def roomD (n:Int):Int:=(n - 2) * 64
def dvSec (x:DvX)(k:Nat):Bs:=(List.range k).flatMap fun (i:Nat)=>dvRd x (2 + (i:Int))
def nSec (b:Int):Nat:=((b + 63) / 64).toNat
def logD (x:DvX)(b:Int):Bs:=(dvSec x (nSec b)).take b.toNat
def endS (s:Bs):Bs:=s.drop (s.length - s.length % 64)
def newD (x:DvX):MkX:=nwM (dvRd x 0) (dvRd x 1)
def opnE (x:DvX):Int:=if x.n<=2 then 1 else if x.on=false then 14 else if roomD x.n < (newD x).b then 10 else
 if alR (logD x (newD x).b)=[]/\((alL (logD x (newD x).b)).length:Int)=(newD x).c then 0 else 10
def opS (x:DvX):SlX:=⟨newD x,logD x (newD x).b,false⟩
def opR (x:DvX):List Bs:=alL (logD x (newD x).b)
def pad64 (s:Bs):Bs:=s.take 64++List.replicate (64 - s.length) 0
theorem pad64_len (s:Bs):(pad64 s).length=64:=by
 unfold pad64
 simp
 omega
theorem pad64_take {s:Bs}{k:Nat}(h:k<=s.length)(hk:k<=64):(pad64 s).take k=s.take k:=by
 unfold pad64
 rw [List.take_append_of_le_length (by rw [List.length_take];omega),List.take_take,Nat.min_eq_left hk]
theorem pad64_all {s:Bs}:(pad64 s).take s.length=s.take 64:=by
 by_cases h:s.length<=64
 ·rw [pad64_take (Nat.le_refl _) h,List.take_length,List.take_of_length_le h]
 ·unfold pad64
  rw [show 64 - s.length=0 by omega,List.replicate_zero,List.append_nil,List.take_of_length_le (by rw [List.length_take];omega)]
def ckF:Nat->Int->Bs->List (Int × Bs)
 | 0,_,_=>[]
 | f + 1,a,s=>if s=[] then [] else (a,pad64 s)::ckF f (a + 1) (s.drop 64)
def ptF:Nat->DvX->Int->Bs->DvX × Int
 | 0,x,_,_=>(x,0)
 | f + 1,x,a,s=>if s=[] then (x,0) else if (dvWr x a (pad64 s)).2=0 then ptF f (dvWr x a (pad64 s)).1 (a + 1) (s.drop 64) else dvWr x a (pad64 s)
def ptD (x:DvX)(a:Int)(s:Bs):DvX × Int:=ptF s.length x a s
theorem ptF_nil (f:Nat)(x:DvX)(a:Int):ptF f x a []=(x,0):=by cases f <;> simp [ptF]
theorem ptF_fuel:∀ {f g:Nat} {x:DvX} {a:Int} {s:Bs},s.length<=f->s.length<=g->ptF f x a s=ptF g x a s
 | 0,g,x,a,s,h,_=>by
  obtain rfl:=List.length_eq_zero_iff.1 (Nat.le_zero.1 h)
  rw [ptF_nil,ptF_nil]
 | f + 1,0,x,a,s,_,h=>by
  obtain rfl:=List.length_eq_zero_iff.1 (Nat.le_zero.1 h)
  rw [ptF_nil,ptF_nil]
 | f + 1,g + 1,x,a,s,h,h'=>by
  unfold ptF
  by_cases hs:s=[]
  ·rw [if_pos hs,if_pos hs]
  ·rw [if_neg hs,if_neg hs,ptF_fuel (f:=f) (g:=g) (by rw [List.length_drop];omega) (by rw [List.length_drop];omega)]
theorem ptD_step {x:DvX}{a:Int}{s:Bs}(hs:s≠[]):ptD x a s=if (dvWr x a (pad64 s)).2=0 then ptD (dvWr x a (pad64 s)).1 (a + 1) (s.drop 64) else dvWr x a (pad64 s):=by
 have hl:0 < s.length:=List.length_pos_iff.2 hs
 unfold ptD
 rw [ptF_fuel (f:=s.length) (g:=s.length - 1 + 1) (Nat.le_refl _) (by omega)]
 rw [ptF,if_neg hs,ptF_fuel (f:=s.length - 1) (g:=(s.drop 64).length) (by rw [List.length_drop];omega) (Nat.le_refl _)]
def cmM (s:SlX)(r:Bs):MkX:=⟨s.m.e + 1,s.m.b + (recB r).length,s.m.c + 1⟩
def cm1 (x:DvX)(s:SlX)(r:Bs):DvX × Int:=ptD x (2 + s.m.b / 64) (endS s.l++recB r)
def cm2 (x:DvX)(s:SlX)(r:Bs):DvX × Int:=dvFlush (cm1 x s r).1
def cm3 (x:DvX)(s:SlX)(r:Bs):DvX × Int:=dvWr (cm2 x s r).1 ((cmM s r).e % 2) (pkM (cmM s r))
def cm4 (x:DvX)(s:SlX)(r:Bs):DvX × Int:=dvFlush (cm3 x s r).1
def cmD (x:DvX)(s:SlX)(r:Bs):DvX × SlX × Int:=
 if s.br=true then (x,s,13) else if 1048576 < r.length then (x,s,11) else if roomD x.n - s.m.b < (recB r).length then (x,s,15)
 else if (cm1 x s r).2≠0 then ((cm1 x s r).1,{ s with br:=true },(cm1 x s r).2)
 else if (cm2 x s r).2≠0 then ((cm2 x s r).1,{ s with br:=true },(cm2 x s r).2)
 else if (cm3 x s r).2≠0 then ((cm3 x s r).1,{ s with br:=true },(cm3 x s r).2)
 else if (cm4 x s r).2≠0 then ((cm4 x s r).1,{ s with br:=true },(cm4 x s r).2)
 else ((cm4 x s r).1,⟨cmM s r,s.l++recB r,false⟩,0)
structure DvOk (x:DvX):Prop where
 n:0<=x.n/\x.n<=4096
 mn:MpN x.es
 el:∀ e ∈ x.es,e.2.1.length=64
 wl:∀ w ∈ x.ws,w.2.length=64
 lf:0<=x.lf/\x.lf<=1000000
theorem z64_len:z64.length=64:=by simp [z64]
theorem dvSafe_len {x:DvX}(h:DvOk x)(a:Int):(dvSafe x a).length=64:=by
 unfold dvSafe mpF
 cases hf:x.es.find? fun e=>decide (e.1=a) with
 | none=>exact z64_len
 | some e=>exact h.el e (List.mem_of_find?_eq_some hf)
theorem wsL_len {x:DvX}(h:DvOk x){a:Int}{s:Bs}(hs:wsL x.ws a=some s):s.length=64:=by
 unfold wsL at hs
 cases hf:x.ws.reverse.find? fun w=>decide (w.1=a) with
 | none=>rw [hf] at hs;cases hs
 | some w=>
  rw [hf] at hs
  injection hs with hs
  subst hs
  exact h.wl w (List.mem_reverse.1 (List.mem_of_find?_eq_some hf))
theorem dvRd_len {x:DvX}(h:DvOk x)(a:Int):(dvRd x a).length=64:=by
 unfold dvRd
 cases hf:wsL x.ws a with
 | none=>exact dvSafe_len h a
 | some s=>exact wsL_len h hf
theorem dvSec_succ (x:DvX)(k:Nat):dvSec x (k + 1)=dvSec x k++dvRd x (2 + (k:Int)):=by
 unfold dvSec
 rw [List.range_succ,List.flatMap_append]
 simp
theorem dvSec_len {x:DvX}(h:DvOk x):∀ k,(dvSec x k).length=64 * k
 | 0=>rfl
 | k + 1=>by
  rw [dvSec_succ,lla,dvSec_len h k,dvRd_len h]
  omega
theorem mpP_mem {es:List MpE}{ck:Nat}{a:Int}{s:Bs}{P:Bs->Prop}(h:∀ e ∈ es,P e.2.1)(hs:P s):∀ e ∈ mpP es ck a s,P e.2.1:=by
 unfold mpP
 intro e he
 split at he
 ·obtain⟨i,hi,rfl⟩:=List.mem_iff_getElem.1 he
  rw [List.getElem_modify]
  split
  ·exact hs
  ·exact h _ (List.getElem_mem _)
 ·rcases List.mem_append.1 he with he|he
  ·exact h e he
  ·obtain rfl:=List.mem_singleton.1 he
   exact hs
theorem dvKeep_ok {x:DvX}{w:Int × Bs}(h:DvOk x)(hw:w.2.length=64):DvOk (dvKeep x w):=by
 refine⟨h.n,kpE_n h.mn,?_,h.wl,h.lf⟩
 intro e he
 unfold dvKeep kpE at he
 dsimp only at he
 split at he
 ·exact mpP_mem (P:=fun s=>s.length=64) h.el hw e ((List.eraseIdx_sublist _ _).subset he)
 ·exact mpP_mem (P:=fun s=>s.length=64) h.el hw e he
theorem foldKeep_ok:∀ {ws:List (Int × Bs)} {x:DvX},DvOk x->(∀ w ∈ ws,w.2.length=64)->DvOk (ws.foldl dvKeep x)
 | [],_,h,_=>h
 | w::ws,x,h,hw=>foldKeep_ok (ws:=ws) (dvKeep_ok h (hw w (by simp))) fun v hv=>hw v (by simp [hv])
theorem dvFl_ok {x:DvX}(h:DvOk x):DvOk (dvFl x):=by
 have:=foldKeep_ok h h.wl
 exact⟨this.n,this.mn,this.el,by simp [dvFl],this.lf⟩
theorem dvStep_ok {x:DvX}(h:DvOk x)(hm:dvMay x=true):DvOk (dvStep x):=by
 refine⟨h.n,h.mn,h.el,h.wl,?_⟩
 unfold dvStep dvMay at *
 have:=h.lf
 dsimp only
 split
 ·rename_i ha
  rw [ha] at hm
  simp at hm
  omega
 ·exact this
theorem dvOff_ok {x:DvX}(h:DvOk x):DvOk (dvOff x):=⟨h.n,h.mn,h.el,h.wl,h.lf⟩
theorem dvPut_ok {x:DvX}{w:Int × Bs}(h:DvOk x)(hw:w.2.length=64):DvOk (dvPut x w):=by
 refine⟨h.n,h.mn,h.el,?_,h.lf⟩
 intro v hv
 rcases List.mem_append.1 hv with hv|hv
 ·exact h.wl v hv
 ·obtain rfl:=List.mem_singleton.1 hv
  exact hw
theorem dvWr_ok {x:DvX}{a:Int}{s:Bs}(h:DvOk x):DvOk (dvWr x a s).1:=by
 unfold dvWr
 split
 ·exact h
 split
 ·exact h
 rename_i hh
 have hl:s.length=64:=Classical.byContradiction fun e=>hh (.inr e)
 split
 ·exact dvPut_ok (dvOff_ok h) hl
 ·rename_i hm
  exact dvPut_ok (dvStep_ok h (by simpa using hm)) hl
theorem dvFlush_ok {x:DvX}(h:DvOk x):DvOk (dvFlush x).1:=by
 unfold dvFlush
 split
 ·exact h
 split
 ·exact dvOff_ok h
 ·rename_i hm
  exact dvFl_ok (dvStep_ok h (by simpa using hm))
theorem ptF_ok:∀ {f:Nat} {x:DvX} {a:Int} {s:Bs},DvOk x->DvOk (ptF f x a s).1
 | 0,_,_,_,h=>h
 | f + 1,x,a,s,h=>by
  unfold ptF
  split
  ·exact h
  split
  ·exact ptF_ok (dvWr_ok h)
  ·exact dvWr_ok h
theorem ptD_ok {x:DvX}{a:Int}{s:Bs}(h:DvOk x):DvOk (ptD x a s).1:=ptF_ok h
theorem crW_ok {x:DvX}{k:List Bool}{torn cut:Int}{i:Nat}{w:Int × Bs}(h:DvOk x)(hw:w.2.length=64):DvOk (crW x k torn cut i w):=by
 unfold crW
 split
 ·refine dvKeep_ok h ?_
  dsimp only
  split
  ·have:=dvSafe_len h w.1
   rw [lla,List.length_take,List.length_drop]
   omega
  ·exact hw
 ·exact h
theorem crF_ok {k:List Bool}{torn cut:Int}:∀ {ws:List (Int × Bs)} {i:Nat} {x:DvX},DvOk x->(∀ w ∈ ws,w.2.length=64)->DvOk (crF k torn cut i x ws)
 | [],_,_,h,_=>h
 | w::ws,i,x,h,hw=>crF_ok (ws:=ws) (crW_ok h (hw w (by simp))) fun v hv=>hw v (by simp [hv])
theorem dvCrash_ok {x:DvX}{k:List Bool}{torn cut:Int}(h:DvOk x):DvOk (dvCrash x k torn cut):=by
 unfold dvCrash
 split
 ·exact h
 ·have:=crF_ok (k:=k) (torn:=torn) (cut:=cut) (i:=0) h h.wl
  exact⟨this.n,this.mn,this.el,by simp,this.lf⟩
theorem foldKeep_f:∀ {ws:List (Int × Bs)} {x:DvX},(ws.foldl dvKeep x).n=x.n/\(ws.foldl dvKeep x).on=x.on/\(ws.foldl dvKeep x).ar=x.ar/\(ws.foldl dvKeep x).lf=x.lf
 | [],_=>⟨rfl,rfl,rfl,rfl⟩
 | w::ws,x=>foldKeep_f (ws:=ws) (x:=dvKeep x w)

instance : TyMp Tryz.prog 80 3 9 := ⟨by kernel_rfl, by kernel_rfl, by kernel_rfl⟩
abbrev wrA (w:Int × Bs):AV:=.agg 2 [int w.1,str w.2]
abbrev dvA (gm:Nat)(x:DvX)(vw:Value):AV:=.agg 7 [int x.n,mpV gm,.sl 2 (x.ws.map wrA) (some vw),boo x.on,boo x.ar,int x.lf,int x.st]
structure DvI where
 gd:Nat
 gm:Nat
 vw:Value
abbrev dvM (I:DvI)(x:DvX):List Av.Piece:=[.var I.gd 83 (dvA I.gm x I.vw),.obj I.gm (mpO x.es x.ck),.tail 114 2 I.vw]
instance fnDvSectors {g gm:Nat}{x:DvX}{vw:Value}:AnsM Tryz.prog GL 44 g [] 83 (dvA gm x vw) True (int x.n) (dvA gm x vw):=⟨fun _=>by
 refine qE Tryz.func44 rfl Tryz.ntmps44 rfl (fun _ hs=>?_)
 repeat' first|refine Vz ?_|intro _
 exact reK _ ⟨rfl,rfl⟩ slr⟩
instance fnDvHas {g gm:Nat}{x:DvX}{vw:Value}{a:Int}:AnsM Tryz.prog GL 83 g [int a] 83 (dvA gm x vw) True (boo (dvHas x a)) (dvA gm x vw):=⟨fun _=>by
 refine qE Tryz.func83 rfl Tryz.ntmps83 rfl (fun _ hs=>?_)
 unfold dvHas
 by_cases h1:0<=a
 ·rw [show decide (0<=a/\a < x.n)=decide (a < x.n) by simp [h1]]
  repeat' first|refine Zz ?_|intro _
  exact reK _ ⟨rfl,rfl⟩ slr
 ·rw [dZ (show ¬ (0<=a/\a < x.n) from fun h=>h1 h.1)]
  repeat' first|refine Zz ?_|intro _
  exact reK _ ⟨rfl,rfl⟩ slr⟩
attribute [local irreducible] dvHas
instance impT_nilD {k:Nat}:ImpT (.lit (.slice none 0 0)) (.sl k [] (some (.slice none 0 0))):=⟨ImpC.nilT⟩
theorem imp_dv {n:Int}{gm:Nat}:ImpC (.agg 7 [int n,mpV gm,.lit (.slice none 0 0),boo true,boo false,int 0,int 0]) (dvA gm (dvNew n) (.slice none 0 0)):=(inferInstance:ImpT _ (.agg 7 [int n,mpV gm,.sl 2 [] (some (.slice none 0 0)),boo true,boo false,int 0,int 0])).imp
theorem fnDvNew {n:Int}(h1:1<=n)(h2:n<=4096):Av.Spec Tryz.prog GL 11 [int n] [] fun u m=>∃ I,u=ptr I.gd/\m=dvM I (dvNew n):=by
 refine qE Tryz.func11 rfl Tryz.ntmps11 rfl (fun _ hs=>?_)
 repeat' first|refine Zz ?_|intro _
 refine al_makeMap (fun gm=>?_)
 repeat' first|refine Zz ?_|intro _
 rename_i gd
 refine ae_asV (g:=gd) imp_dv ?_
 refine ae_st (fun ok w h=>h.full 114 2 none 0) ?_
 refine ae_st (fun ok w h=>h.perm (m':=dvM ⟨gd,gm,.slice none 0 0⟩ (dvNew n)) (List.perm_append_comm (l₁:=[_,_]) (l₂:=[_]))) ?_
 exact reK _ ⟨_,rfl,rfl⟩ slr
theorem fnDvArm {I:DvI}{x:DvX}{k:Int}:Av.Spec Tryz.prog GL 28 [ptr I.gd,int k] (dvM I x) fun u m=>u=.tup []/\m=dvM I (dvArm x k):=by
 refine qE Tryz.func28 rfl Tryz.ntmps28 rfl (fun _ hs=>?_)
 repeat' first|refine Zz ?_|intro _
 exact reN _ ⟨rfl,rfl⟩ slr
theorem fnDvKeep {I:DvI}{x:DvX}{w:Int × Bs}:Av.Spec Tryz.prog GL 43 [ptr I.gd,wrA w] (dvM I x) fun u m=>u=.tup []/\m=dvM I (dvKeep x w):=by
 refine qE Tryz.func43 rfl Tryz.ntmps43 rfl (fun _ hs=>?_)
 repeat' first|refine Zz ?_|intro _
 apply obl_writeN [2];exact rfl;exact rfl;kernel_rfl
 ·intro _ _
  refine al_mapPut (pre:=[]) (post:=[]) ?_ rfl
  exact al_nil (ae_gotN rfl)
 ·exact rfl
 ·exact rfl
 repeat' first|refine Zz ?_|intro _
 apply obl_read [];exact rfl;exact rfl;kernel_rfl
 ·intro _ _
  refine al_makeZ ?_
  exact al_nil (ae_got rfl rfl)
 repeat' first|refine Zz ?_|intro _
 have hk:dvKeep x w={ x with es:=if w.2=List.replicate (Int.toNat 64) 0 then mpD (mpP x.es x.ck w.1 w.2) w.1 else mpP x.es x.ck w.1 w.2,ck:=mpC x.es x.ck w.1 }:=rfl
 rw [hk]
 refine ac_cond (fun h=>?_) (fun h=>?_)
 ·rw [if_pos h]
  repeat' first|refine Zz ?_|intro _
  apply obl_writeN [2];exact rfl;exact rfl;kernel_rfl
  ·intro _ _
   refine al_mapDel (pre:=[]) (post:=[]) ?_ rfl
   exact al_nil (ae_gotN rfl)
  ·exact rfl
  ·exact rfl
  repeat' first|refine Zz ?_|intro _
  refine reN _ ⟨rfl,rfl⟩ ?_
  exact sbl
 ·rw [if_neg h]
  repeat' first|refine Zz ?_|intro _
  refine reN _ ⟨rfl,rfl⟩ ?_
  exact sbl
theorem fnDvSafe {I:DvI}{x:DvX}{a:Int}:Av.Spec Tryz.prog GL 42 [ptr I.gd,int a] (dvM I x) fun u m=>u=str (if dvHas x a=true then dvSafe x a else [])/\m=dvM I x:=by
 refine qE Tryz.func42 rfl Tryz.ntmps42 rfl (fun _ hs=>?_)
 repeat' first|refine Zz ?_|intro _
 cases hh:dvHas x a
 ·repeat' first|refine Zz ?_|intro _
  exact reK _ ⟨rfl,rfl⟩ slr
 repeat' first|refine Zz ?_|intro _
 refine al_lookup ?_
 repeat' first|refine Zz ?_|intro _
 unfold dvSafe
 cases hf:mpF x.es a with
 | none=>
  repeat' first|refine Zz ?_|intro _
  refine al_makeZ ?_
  repeat' first|refine Zz ?_|intro _
  exact reK _ ⟨rfl,rfl⟩ slr
 | some t=>
  repeat' first|refine Zz ?_|intro _
  exact reK _ ⟨rfl,rfl⟩ slr
theorem wsL_app (l r:List (Int × Bs))(a:Int):wsL (l++r) a=match wsL r a with|some s=>some s|none=>wsL l a:=by
 unfold wsL
 rw [List.reverse_append,List.find?_append]
 cases r.reverse.find? fun w=>decide (w.1=a) <;> rfl
theorem wsL_take {ws:List (Int × Bs)}{a:Int}{k:Nat}(hk:k < ws.length):wsL (ws.take (k + 1)) a=if ws[k].1=a then some ws[k].2 else wsL (ws.take k) a:=by
 rw [<- List.take_append_getElem hk,wsL_app]
 by_cases h:ws[k].1=a
 ·rw [if_pos h]
  simp [wsL,h]
 ·rw [if_neg h]
  simp [wsL,h]
set_option maxHeartbeats 1000000 in
theorem fnDvRead {I:DvI}{x:DvX}{a:Int}(hon:x.on=true)(ha:dvHas x a=true)(hl:x.ws.length<=1000000):Av.Spec Tryz.prog GL 45 [ptr I.gd,int a] (dvM I x) fun u m=>u=.tup [str (dvRd x a),int 0]/\m=dvM I x:=by
 have hm:(x.ws.map wrA).length=x.ws.length:=llm _
 refine qE Tryz.func45 rfl Tryz.ntmps45 rfl (fun _ hs=>?_)
 repeat' first|refine Zz ?_|intro _
 rw [hon]
 repeat' first|refine Zz ?_|intro _
 rw [ha]
 repeat' first|refine Zz ?_|intro _
 rw [hm]
 refine ac_loop (α:=Nat) (fun k=>[(0,ptr I.gd),(1,int a),(6,int ((k:Int) - 1))]) (fun _=>dvM I x) (fun k=>k<=x.ws.length/\wsL x.ws a=wsL (x.ws.take k) a) (fun k=>k) x.ws.length ⟨rfl,rfl,rfl,trivial⟩ slr ⟨Nat.le_refl _,by rw [List.take_length]⟩ ?_
 rintro k ⟨hk,hI⟩
 rcases k with _|k
 ·repeat' first|refine Zz ?_|intro _
  refine al_callF [] (dvM I x) [] fnDvSafe (fun u m1 hh=>?_)
  obtain⟨rfl,rfl⟩:=hh
  rw [if_pos ha]
  repeat' first|refine Zz ?_|intro _
  have e:dvRd x a=dvSafe x a:=by
   unfold dvRd
   rw [hI]
   rfl
  rw [e]
  exact reK _ ⟨rfl,rfl⟩ slr
 ·rw [show ((k + 1:Nat):Int) - 1=(k:Int) by omega]
  have hk':k < x.ws.length:=hk
  rw [wsL_take hk'] at hI
  repeat' first|refine Zz ?_|intro _
  by_cases he:x.ws[k].1=a
  ·rw [if_pos he] at hI
   repeat' first|refine Zz ?_|intro _
   have e:dvRd x a=x.ws[k].2:=by
    unfold dvRd
    rw [hI]
    rfl
   rw [e]
   exact reK _ ⟨rfl,rfl⟩ slr
  ·rw [if_neg he] at hI
   repeat' first|refine Zz ?_|intro _
   exact ae_round k ⟨rfl,rfl,rfl,trivial⟩ slr ⟨by omega,hI⟩ (Nat.lt_succ_self _)
end Go.Proofs.YtndhpgclmgpmoaaGreatDoor
