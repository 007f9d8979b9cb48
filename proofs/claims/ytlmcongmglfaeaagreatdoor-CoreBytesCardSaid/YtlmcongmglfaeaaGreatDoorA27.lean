/- ways, gone: the program's and the references' -/
import Derived.Test.YtlmcongmglfaeaaGreatDoorA16
import Derived.Test.YtlmcongmglfaeaaGreatDoorA21
import Derived.Test.YtlmcongmglfaeaaGreatDoorA25
import Derived.Test.YtlmcongmglfaeaaGreatDoorA26
namespace Go.Proofs.YtlmcongmglfaeaaGreatDoor
open Go Go.RowKit Tw Av
theorem tlvT_cons {c:Int}{s:Bs}(h:s.length<=16777215):tlvT c s=UInt8.ofNat c.toNat::UInt8.ofNat (s.length / 65536)::UInt8.ofNat (s.length / 256)::UInt8.ofNat s.length::s:=by
 unfold tlvT tlvText
 rw [List.take_of_length_le (by simp [bodyLen];omega)]
theorem len3_of {n:Nat}(h:n<=16777215):len3 (UInt8.ofNat (n / 65536)) (UInt8.ofNat (n / 256)) (UInt8.ofNat n)=n:=by
 unfold len3
 rw [UInt8.toNat_ofNat',UInt8.toNat_ofNat',UInt8.toNat_ofNat']
 omega
theorem cut_tlvT {c most:Int}{s r:Bs}(h0:0<=c)(h1:c < 256)(h2:(s.length:Int)<=most)(h3:s.length<=16777215):cutT c most false (tlvT c s++r)=some (s,r):=by
 rw [tlvT_cons h3]
 simp only [List.cons_append]
 rw [cutT,len3_of h3,if_pos]
 ·simp
 ·refine⟨rfl,?_,h2,by simp⟩
  rw [UInt8.toNat_ofNat']
  omega
theorem rd_tlvT {c most:Int}{s r:Bs}(h0:0<=c)(h1:c < 256)(h2:(s.length:Int)<=most)(h3:s.length<=16777215):rtT c most (tlvT c s++r) false=s/\rsT c most (tlvT c s++r) false=r/\rbT c most (tlvT c s++r) false=false:=by
 have h:=cut_tlvT (r:=r) h0 h1 h2 h3
 unfold rtT rsT rbT
 rw [h]
 exact⟨rfl,rfl,rfl⟩
theorem digitsF_len:∀ f n,(digitsF f n).length<=f
 | 0,_=>Nat.le_refl _
 | f + 1,n=>by
  rw [digitsF]
  split
  ·simp
  ·have:=digitsF_len f (n / 256)
   simp
   omega
theorem digitsF_num:∀ f n,n < 256 ^ f->numOf (digitsF f n)=n
 | 0,n,h=>by simp at h;subst h;rfl
 | f + 1,n,h=>by
  rw [digitsF]
  split
  ·rename_i h0
   subst h0
   rfl
  ·rw [numOf_snoc,digitsF_num f (n / 256) (by rw [Nat.pow_succ] at h;omega),UInt8.toNat_ofNat']
   omega
theorem rd_tlvI {c most:Int}{n:Int}{r:Bs}(h0:0<=c)(h1:c < 256)(h2:0<=n)(h3:n<=most)(h4:most<=9223372036854775807):riI c most (tlvI c n++r) false=n/\rsT c 8 (tlvI c n++r) false=r/\riB c most (tlvI c n++r) false=false:=by
 have hd:(digits n.toNat).length<=8:=digitsF_len 8 _
 have hn:numOf (digits n.toNat)=n.toNat:=digitsF_num 8 _ (by show n.toNat < 18446744073709551616;omega)
 have hl:lead0 (digits n.toNat)=false:=digits_lead 8 _ (by show n.toNat < 18446744073709551616;omega)
 have h:=rd_tlvT (c:=c) (most:=8) (s:=digits n.toNat) (r:=r) h0 h1 (by omega) (by omega)
 have e:tlvI c n=tlvT c (digits n.toNat):=rfl
 have hN:rnN c (tlvI c n++r) false=n.toNat:=by
  rw [rnN_eq,e,h.1,hl,hn]
  rfl
 have hB:rnB c (tlvI c n++r) false=false:=by
  unfold rnB
  rw [e,h.1,h.2.2,hl]
  rfl
 refine⟨?_,by rw [e];exact h.2.1,?_⟩
 ·rw [riI,hN,if_neg (by omega)]
  omega
 ·rw [riB,hN,hB,dZ (by omega)]
  rfl
theorem bods_all {c most:Int}(h0:0<=c)(h1:c < 256):∀ (l:List Bs) (f:Nat),l.length < f->(∀ s ∈ l,(s.length:Int)<=most/\s.length<=16777215)->bods c most f (l.flatMap (tlvT c)) false=(l,false)
 | [],f,hf,_=>by
  rcases f with _|f
  ·omega
  ·exact bods_nil
 | s::l,f,hf,hl=>by
  rcases f with _|f
  ·omega
  rw [List.flatMap_cons]
  have h:=rd_tlvT (r:=l.flatMap (tlvT c)) h0 h1 (hl s (by simp)).1 (hl s (by simp)).2
  have ih:=bods_all h0 h1 l f (by simp at hf;omega) (fun t ht=>hl t (by simp [ht]))
  have hne:tlvT c s++l.flatMap (tlvT c)≠[]:=by rw [tlvT_cons (hl s (by simp)).2];simp
  rw [bods,if_neg (by simp [hne]),h.1,h.2.1,h.2.2,ih]
theorem flat_ge {c:Int}:∀ l:List Bs,l.length<=(l.flatMap (tlvT c)).length
 | []=>by simp
 | s::l=>by
  have:=flat_ge (c:=c) l
  have h2:4<=(tlvT c s).length:=by simp [tlvT,tlvText]
  rw [List.flatMap_cons,lla,List.length_cons]
  omega
theorem rd_tlvA {c many most:Int}{l:List Bs}{r:Bs}(h0:0<=c)(h1:c < 256)(h2:(l.length:Int)<=many)(h3:∀ s ∈ l,(s.length:Int)<=most/\s.length<=16777215)(h4:(l.flatMap (tlvT c)).length<=16777215):raL c many most (tlvA c l++r) false=l/\rsT c 16777215 (tlvA c l++r) false=r/\raB c many most (tlvA c l++r) false=false:=by
 have h:=rd_tlvT (c:=c) (most:=16777215) (s:=l.flatMap (tlvT c)) (r:=r) h0 h1 (by omega) h4
 have e:tlvA c l=tlvT c (l.flatMap (tlvT c)):=rfl
 have hX:allX c most (l.flatMap (tlvT c))=(l,false):=bods_all h0 h1 l _ (by have:=flat_ge (c:=c) l;omega) h3
 have hb:badA false (l,false) many=false:=by
  unfold badA
  rw [dZ (by show ¬ many < (l.length:Int);omega)]
  rfl
 refine⟨?_,by rw [e];exact h.2.1,?_⟩
 ·unfold raL
  rw [e,h.1,h.2.2,hX]
  unfold outA
  rw [hb]
  rfl
 ·unfold raB
  rw [e,h.1,h.2.2,hX,hb]
theorem flat_short {c:Int}{n:Nat}:∀ {l:List Bs},(∀ s ∈ l,s.length<=n)->n<=16777215->(l.flatMap (tlvT c)).length<=l.length * (n + 4)
 | [],_,_=>by simp
 | s::l,h,hn=>by
  have h1:=flat_short (c:=c) (l:=l) (fun t ht=>h t (by simp [ht])) hn
  have h2:=h s (by simp)
  rw [List.flatMap_cons,lla,List.length_cons,Nat.add_mul,tlvT_cons (by omega)]
  simp only [List.length_cons]
  omega

def setR (k:Bs)(n:Nat)(d:List Ent):List Ent × Int:=if n=0 then (drpL d k,0) else putR d k (beB n)
def mintQ (d:List Ent)(a c:Bs)(n:Wd):List Ent × Int:=if nameB a=false\/dnmB c=false\/n.n=0 then ([],1)
 else if wIs ((getW d (totK c)).n + n.n)=false\/wIs ((getW d (balK a c)).n + n.n)=false then ([],17)
 else thenR (setR (totK c) ((getW d (totK c)).n + n.n)) (setR (balK a c) ((getW d (balK a c)).n + n.n)) d
def burnQ (d:List Ent)(a c:Bs)(n:Wd):List Ent × Int:=if nameB a=false\/dnmB c=false\/n.n=0 then ([],1)
 else if (getW d (totK c)).n < n.n\/(getW d (balK a c)).n < n.n then ([],16)
 else thenR (setR (totK c) ((getW d (totK c)).n - n.n)) (setR (balK a c) ((getW d (balK a c)).n - n.n)) d
def moveQ (d:List Ent)(a b c:Bs)(n:Wd):List Ent × Int:=if nameB a=false\/nameB b=false\/dnmB c=false\/n.n=0 then ([],1)
 else if (getW d (balK a c)).n < n.n then ([],16)
 else if a=b then (d,0)
 else if wIs ((getW d (balK b c)).n + n.n)=false then ([],17)
 else thenR (setR (balK a c) ((getW d (balK a c)).n - n.n)) (setR (balK b c) ((getW d (balK b c)).n + n.n)) d
theorem tlvT_len' {c:Int}{s:Bs}(h:s.length<=16777215):(tlvT c s).length=s.length + 4:=by
 rw [tlvT_cons h]
 simp
theorem tlvT_inj {c:Int}{a b r t:Bs}(h0:0<=c)(h1:c < 256)(ha:a.length<=1000)(hb:b.length<=1000)(h:tlvT c a++r=tlvT c b++t):a=b/\r=t:=by
 have e1:=cut_tlvT (c:=c) (most:=1000) (s:=a) (r:=r) h0 h1 (by omega) (by omega)
 have e2:=cut_tlvT (c:=c) (most:=1000) (s:=b) (r:=t) h0 h1 (by omega) (by omega)
 rw [h,e2] at e1
 injection e1 with e1
 injection e1 with e1 e3
 exact⟨e1.symm,e3.symm⟩
theorem nameB_len {s:Bs}(h:nameB s=true):1<=s.length/\s.length<=64:=of_decide_eq_true h
theorem dnmB_len {s:Bs}(h:dnmB s=true):1<=s.length/\s.length<=200:=of_decide_eq_true h
theorem balK_ne {a b c:Bs}(ha:nameB a=true)(hb:nameB b=true)(h:a≠b):balK a c≠balK b c:=fun e=>by
 have:=nameB_len ha
 have:=nameB_len hb
 unfold balK at e
 rw [laa,laa] at e
 exact h (tlvT_inj (by decide) (by decide) (by omega) (by omega) (List.append_cancel_left e)).1
theorem balK_tot {a c t:Bs}:balK a c≠totK t:=fun e=>by
 unfold balK totK at e
 rw [laa] at e
 injection e with e
 cases e
theorem balK_len {a c:Bs}(ha:nameB a=true)(hc:dnmB c=true):(balK a c).length<=400:=by
 have:=nameB_len ha
 have:=dnmB_len hc
 unfold balK
 rw [lla,lla,tlvT_len' (by omega),tlvT_len' (by omega)]
 simp
 omega
theorem totK_len {c:Bs}(hc:dnmB c=true):(totK c).length<=400:=by
 have:=dnmB_len hc
 unfold totK
 rw [lla,tlvT_len' (by omega)]
 simp
 omega
theorem getW_put {d:List Ent}{k v q:Bs}(h:Srt d)(hq:q≠k):getW (putL d k v) q=getW d q:=by
 unfold getW
 rw [valE_put h,if_neg hq]
theorem getW_drp {d:List Ent}{k q:Bs}(h:Srt d)(hq:q≠k):getW (drpL d k) q=getW d q:=by
 unfold getW
 rw [valE_drp h,if_neg hq]
theorem getW_self {d:List Ent}{k:Bs}{n:Nat}(h:Srt d)(hn:n < 115792089237316195423570985008687907853269984665640564039457584007913129639936):(getW (putL d k (beB n)) k).n=n:=by
 have e:=beN_beB (wOf n)
 rw [wOf_n hn] at e
 unfold getW
 rw [valE_put h,if_pos rfl,if_pos (beB_len n),e,wOf_n hn]
theorem getW_gone {d:List Ent}{k:Bs}(h:Srt d):getW (drpL d k) k=wZ:=by
 unfold getW
 rw [valE_drp h,if_pos rfl]
 rfl
theorem putR_ne {d:List Ent}{k v q:Bs}(h:Srt d)(hq:q≠k)(he:(putR d k v).2=0):getW (putR d k v).1 q=getW d q:=by
 unfold putR at he ⊢
 split
 ·exact getW_put h hq
 ·rename_i h1
  rw [if_neg h1] at he
  exact absurd he h1
theorem setR_ne {d:List Ent}{k q:Bs}{n:Nat}(h:Srt d)(hq:q≠k)(he:(setR k n d).2=0):getW (setR k n d).1 q=getW d q:=by
 unfold setR at he ⊢
 split
 ·exact getW_drp h hq
 ·rename_i h1
  rw [if_neg h1] at he
  exact putR_ne h hq he
theorem getW_pos {d:List Ent}{k:Bs}(h:Srt d)(hp:0 < (getW d k).n):bsIs d k=true:=by
 rw [is_bs h]
 unfold getW valE at hp
 cases e:gO d k with
 | none=>
  rw [e] at hp
  exact absurd hp (by decide)
 | some v=>rfl
theorem less_ok {d:List Ent}{k:Bs}{n:Wd}(h:DOk d)(hk:k.length<=400)(hn:n.n≠0)(hle:n.n<=(getW d k).n):lessR k n d=setR k ((getW d k).n - n.n) d/\(lessR k n d).2=0:=by
 have hb:bsIs d k=true:=getW_pos h.s (by omega)
 have he:∀ v:Bs,v.length<=4000->putE d k v=0:=fun v hv=>putE_eq0.2 ⟨hk,hv,.inl hb⟩
 unfold lessR setR
 rw [if_neg (by omega)]
 by_cases h1:(getW d k).n=n.n
 ·rw [if_pos h1,if_pos (by omega)]
  exact⟨rfl,rfl⟩
 ·rw [if_neg h1,if_neg (by omega)]
  refine⟨rfl,?_⟩
  rw [putR_e]
  exact he _ (by rw [beB_len];omega)
theorem more_set {d:List Ent}{k:Bs}{n:Wd}(hn:n.n≠0):moreR k n d=if wIs ((getW d k).n + n.n)=true then setR k ((getW d k).n + n.n) d else ([],17):=by
 unfold moreR setR
 split
 ·rw [if_neg (by omega)]
 ·rfl
theorem moreR_16 {d:List Ent}{k:Bs}{n:Wd}:(moreR k n d).2≠16:=by
 unfold moreR
 split
 ·rw [putR_e]
  unfold putE
  split
  ·decide
  ·split
   ·decide
   ·split <;> decide
 ·decide
theorem mint_eq {d:List Ent}(h:DOk d)(a c:Bs)(n:Wd):mintR d a c n=mintQ d a c n:=by
 unfold mintR mintQ
 split
 ·rfl
 ·rename_i h1
  simp only [not_or,Bool.not_eq_false] at h1
  obtain⟨h2,h3,h4⟩:=h1
  by_cases h5:wIs ((getW d (balK a c)).n + n.n)=false
  ·rw [if_pos h5,if_pos (.inr h5)]
  ·rw [if_neg h5]
   have h5':wIs ((getW d (balK a c)).n + n.n)=true:=by simpa using h5
   unfold thenR
   by_cases h6:wIs ((getW d (totK c)).n + n.n)=false
   ·have m1:moreR (totK c) n d=([],17):=by rw [more_set h4,if_neg (by simp [h6])]
    have n0:¬ (([],17):List Ent × Int).2=0:=by decide
    rw [m1,if_neg n0,if_pos (.inl h6)]
   ·have h6':wIs ((getW d (totK c)).n + n.n)=true:=by simpa using h6
    have m1:moreR (totK c) n d=setR (totK c) ((getW d (totK c)).n + n.n) d:=by rw [more_set h4,if_pos h6']
    have hc:¬ (wIs ((getW d (totK c)).n + n.n)=false\/wIs ((getW d (balK a c)).n + n.n)=false):=by rw [h5',h6'];decide
    rw [m1,if_neg hc]
    by_cases h7:(setR (totK c) ((getW d (totK c)).n + n.n) d).2=0
    ·rw [if_pos h7,if_pos h7,more_set h4,setR_ne h.s balK_tot h7,if_pos h5']
    ·rw [if_neg h7,if_neg h7]
theorem burn_eq {d:List Ent}(h:DOk d)(a c:Bs)(n:Wd):burnR d a c n=burnQ d a c n:=by
 unfold burnR burnQ
 split
 ·rfl
 ·rename_i h1
  simp only [not_or,Bool.not_eq_false] at h1
  obtain⟨h2,h3,h4⟩:=h1
  unfold thenR
  by_cases h5:(getW d (totK c)).n < n.n
  ·have n0:¬ (([],16):List Ent × Int).2=0:=by decide
   have:lessR (totK c) n d=([],16):=by rw [lessR,if_pos h5]
   rw [this,if_neg n0,if_pos (.inl h5)]
  ·obtain⟨e1,e2⟩:=less_ok h (totK_len h3) h4 (by omega:n.n<=(getW d (totK c)).n)
   have e3:=e2
   rw [e1] at e3
   rw [if_pos e2,e1]
   have hd:DOk (setR (totK c) ((getW d (totK c)).n - n.n) d).1:=by
    unfold setR at e3 ⊢
    split
    ·exact h.drp _
    ·rename_i h8
     rw [if_neg h8] at e3
     exact putR_ok h e3
   by_cases h6:(getW d (balK a c)).n < n.n
   ·rw [if_pos (show (getW d (totK c)).n < n.n\/(getW d (balK a c)).n < n.n from .inr h6),lessR,setR_ne h.s balK_tot e3,if_pos h6]
   ·rw [if_neg (show ¬ ((getW d (totK c)).n < n.n\/(getW d (balK a c)).n < n.n) by omega),if_pos e3,(less_ok hd (balK_len h2 h3) h4 (by rw [setR_ne h.s balK_tot e3];omega)).1,setR_ne h.s balK_tot e3]
theorem move_eq {d:List Ent}(h:DOk d)(a b c:Bs)(n:Wd):moveR d a b c n=moveQ d a b c n:=by
 unfold moveR moveQ
 split
 ·rfl
 ·rename_i h1
  simp only [not_or,Bool.not_eq_false] at h1
  obtain⟨h2,h2',h3,h4⟩:=h1
  by_cases h5:(getW d (balK a c)).n < n.n
  ·have e1:thenR (lessR (balK a c) n) (moreR (balK b c) n) d=([],16):=by
    unfold thenR
    have:lessR (balK a c) n d=([],16):=by rw [lessR,if_pos h5]
    rw [this,if_neg (show ¬ (([],16):List Ent × Int).2=0 by decide)]
   rw [e1,if_neg (show ¬ (a=b/\(([],16):List Ent × Int).2≠16) from fun hh=>hh.2 rfl),if_pos h5]
  ·obtain⟨e1,e2⟩:=less_ok h (balK_len h2 h3) h4 (by omega:n.n<=(getW d (balK a c)).n)
   have e3:=e2
   rw [e1] at e3
   have e4:thenR (lessR (balK a c) n) (moreR (balK b c) n) d=moreR (balK b c) n (setR (balK a c) ((getW d (balK a c)).n - n.n) d).1:=by
    unfold thenR
    rw [if_pos e2,e1]
   rw [if_neg h5,e4]
   by_cases h6:a=b
   ·rw [if_pos ⟨h6,moreR_16⟩,if_pos h6]
   ·rw [if_neg (fun hh=>h6 hh.1),if_neg h6,more_set h4,setR_ne h.s (balK_ne h2' h2 (fun e=>h6 e.symm)) e3]
    unfold thenR
    rw [if_pos e3]
    by_cases h7:wIs ((getW d (balK b c)).n + n.n)=true
    ·rw [if_pos h7,if_neg (by simp [h7])]
    ·rw [if_neg h7,if_pos (by simpa using h7)]
theorem putR_dok {d:List Ent}{k v:Bs}(h:DOk d):DOk (putR d k v).1:=by
 unfold putR
 split
 ·rename_i h1;exact h.put h1
 ·exact .nil
theorem moreR_dok {d:List Ent}{k:Bs}{n:Wd}(h:DOk d):DOk (moreR k n d).1:=by
 unfold moreR
 split
 ·exact putR_dok h
 ·exact .nil
theorem lessR_dok {d:List Ent}{k:Bs}{n:Wd}(h:DOk d):DOk (lessR k n d).1:=by
 unfold lessR
 split
 ·exact .nil
 ·split
  ·exact h.drp _
  ·exact putR_dok h
theorem thenR_dok {d:List Ent}{a b:List Ent->List Ent × Int}(h:DOk d)(ha:∀ d,DOk d->DOk (a d).1)(hb:∀ d,DOk d->DOk (b d).1):DOk (thenR a b d).1:=by
 unfold thenR
 split
 ·exact hb _ (ha _ h)
 ·exact ha _ h
theorem mintR_dok {d:List Ent}{a c:Bs}{n:Wd}(h:DOk d):DOk (mintR d a c n).1:=by
 unfold mintR
 split
 ·exact .nil
 ·split
  ·exact .nil
  ·exact thenR_dok h (fun _ h=>moreR_dok h) (fun _ h=>moreR_dok h)
theorem burnR_dok {d:List Ent}{a c:Bs}{n:Wd}(h:DOk d):DOk (burnR d a c n).1:=by
 unfold burnR
 split
 ·exact .nil
 ·exact thenR_dok h (fun _ h=>lessR_dok h) (fun _ h=>lessR_dok h)
theorem moveR_dok {d:List Ent}{a b c:Bs}{n:Wd}(h:DOk d):DOk (moveR d a b c n).1:=by
 unfold moveR
 split
 ·exact .nil
 ·split
  ·exact h
  ·exact thenR_dok h (fun _ h=>lessR_dok h) (fun _ h=>moreR_dok h)
theorem sendR_dok {d:List Ent}{x:Pkt}(h:DOk d):DOk (sendR d x).1:=by
 unfold sendR
 split
 ·exact .nil
 ·split
  ·exact burnR_dok h
  ·exact moveR_dok h
theorem recvR_dok {d:List Ent}{x:Pkt}(h:DOk d):DOk (recvR d x).1:=by
 unfold recvR
 split
 ·exact .nil
 ·split
  ·exact moveR_dok h
  ·exact mintR_dok h
theorem backR_dok {d:List Ent}{x:Pkt}(h:DOk d):DOk (backR d x).1:=by
 unfold backR
 split
 ·exact .nil
 ·split
  ·exact mintR_dok h
  ·exact moveR_dok h

def fill {α:Type}(f:α->Value)(z:Value)(l:List α)(i:Nat):List AV:=(l.take i).map (fun x=>.lit (f x))++List.replicate (l.length - i) (.lit z)
instance {α:Type}{f:α->Value}{z:Value}{l:List α}{i:Nat}:Siz (fill f z l i) 1:=by unfold fill;infer_instance
theorem fill_len {α:Type}{f:α->Value}{z:Value}{l:List α}{i:Nat}(h:i<=l.length):(fill f z l i).length=l.length:=by simp [fill];omega
theorem fill_set {α:Type}{f:α->Value}{z:Value}{l:List α}{i:Nat}(h:i < l.length):(fill f z l i).set i (.lit (f l[i]))=fill f z l (i + 1):=by
 have hl:((l.take i).map fun x=>AV.lit (f x)).length=i:=by simp;omega
 unfold fill
 rw [List.set_append,if_neg (by omega),hl,Nat.sub_self,show l.length - i=(l.length - (i + 1)) + 1 by omega,List.replicate_succ,List.set_cons_zero,List.take_succ_eq_append_getElem h,List.map_append,laa]
 rfl
theorem fill_all {α:Type}{f:α->Value}{z:Value}{l:List α}:fill f z l l.length=l.map fun x=>.lit (f x):=by simp [fill]
class U8s (xs:List AV)(l:outParam Bs):Prop where
 out:xs=l.map u8A
instance {l:Bs}:U8s (l.map u8A) l:=⟨rfl⟩
instance {xs:List AV}{l:Bs}{i:Nat}[h:U8s xs l]:U8s (xs.take i) (l.take i):=⟨by rw [h.out,List.map_take]⟩
instance {xs:List AV}{l:Bs}{i:Nat}[h:U8s xs l]:U8s (xs.drop i) (l.drop i):=⟨by rw [h.out,List.map_drop]⟩
instance fnRBlock' {x:H8}{xs:List AV}{blk:Bs}{id:Option Value}[h:U8s xs blk]:Ans Tryz.prog GL 336 [tabA,hwA x,.sl 1 xs id] (blk.length=64) (hwA (compress x blk)):=by
 rw [h.out]
 infer_instance
def padZ (n:Nat):Nat:=(119 - n % 64) % 64
theorem pad_len (s:Bs):(pad s).length=s.length + 1 + padZ s.length + 8:=by
 have:(be64 (8 * s.length)).length=8:=rfl
 simp [pad,zeros,this,padZ]
 omega
theorem u8w (q:Nat):Value.int .u8 (IntKind.u8.wrap (q:Int))=u8v (UInt8.ofNat q):=by
 unfold u8v
 rw [IntKind.wrap_u8]
 congr 1
attribute [local irreducible] Av.Obl
set_option maxHeartbeats 4000000 in
instance fnRSum {s:Bs}:Ans Tryz.prog GL 277 [tabA,str s] (s.length<=35184372088832) (hA (shaH s)):=⟨fun hl=>by
 refine qE Tryz.func277 rfl Tryz.ntmps277 rfl (fun _ hs=>?_)
 repeat' (first|refine ct1 ?_|refine al_move ?_|refine al_box (fun _=>?_)|refine al_alloc (fun _=>?_)|intro _|fail)
 rename_i g2 g4
 refine al_bytesT (fun v=>?_)
 repeat' first|refine Wz ?_|intro _
 refine al_append (fun v'=>?_)
 repeat' first|refine Wz ?_|intro _
 have hZ:padZ s.length < 64:=by unfold padZ;omega
 have hs0:s.map (fun c=>AV.lit (u8v c))++[.lit (.int .u8 128)]=(s++128::zeros 0).map u8A:=by
  rw [List.map_append]
  rfl
 refine ac_as 5 (v':=.sl 1 ((s++128::zeros 0).map u8A) (some v')) (Imp.of_eq (by rw [<- hs0])) ?_
 refine ac_loop (α:=Nat × Value) (fun q=>[(1,str s),(2,ptr g2),(4,ptr g4),(5,.sl 1 ((s++128::zeros q.1).map u8A) (some q.2))]) (fun q=>[.tail 5 1 q.2,.var g4 38 (hA zeroH),.var g2 299 tabA])
  (fun q=>q.1<=padZ s.length) (fun q=>padZ s.length - q.1) (0,v') ⟨rfl,rfl,rfl,rfl,trivial⟩ slr (Nat.zero_le _) ?_
 rintro⟨z,v''⟩ hz
 dsimp only at hz ⊢
 have hlz:((s++128::zeros z).map u8A).length=s.length + 1 + z:=by simp [zeros];omega
 repeat' first|refine Wz ?_|intro _
 refine ac_cond (fun hne=>?_) (fun hne=>?_)
 ·repeat' first|refine Wz ?_|intro _
  rw [hlz] at hne
  refine al_append (hb:=by rw [hlz];simp;omega) (hl:=by rw [hlz];simp [maxLen];omega) (fun v3=>?_)
  repeat' first|refine Wz ?_|intro _
  have e:(s++128::zeros z).map u8A++[.lit (.int .u8 0)]=(s++128::zeros (z + 1)).map u8A:=by
   simp [zeros,List.replicate_succ',u8v]
  rw [e]
  exact ae_round (z + 1,v3) ⟨rfl,rfl,rfl,rfl,trivial⟩ slr (by simp only;unfold padZ at *;omega) (by simp only;unfold padZ at *;omega)
 ·rw [hlz] at hne
  obtain rfl:z=padZ s.length:=by unfold padZ at *;omega
  repeat' first|refine Wz ?_|intro _
  refine al_arith ?_
  have hw:IntKind.u64.wrap ((s.length:Int) * 8)=((8 * s.length:Nat):Int):=by rw [IntKind.wrap_u64];omega
  rw [hw]
  repeat' first|refine Wz ?_|intro _
  generalize hB:s++128::zeros (padZ s.length)=B at *
  have hlB:B.length=s.length + 1 + padZ s.length:=by simpa using hlz
  refine ac_loop (α:=Nat × Value) (fun q=>[(2,ptr g2),(4,ptr g4),(5,.sl 1 ((B++(be64 (8 * s.length)).take q.1).map u8A) (some q.2)),(6,.lit (.int .u64 ((8 * s.length:Nat):Int))),(7,int (7 - (q.1:Int)))]) (fun q=>[.tail 5 1 q.2,.var g4 38 (hA zeroH),.var g2 299 tabA])
   (fun q=>q.1<=8) (fun q=>8 - q.1) (0,v'') ⟨rfl,rfl,by simp;rfl,rfl,rfl,trivial⟩ slr (Nat.zero_le _) ?_
  rintro⟨i,v4⟩ hi
  dsimp only at hi ⊢
  have hl8:(be64 (8 * s.length)).length=8:=rfl
  have hlq:((B++(be64 (8 * s.length)).take i).map u8A).length=B.length + i:=by simp [hl8];omega
  repeat' first|refine Wz ?_|intro _
  refine ac_cond (fun hge=>?_) (fun hge=>?_)
  ·repeat' first|refine Wz ?_|intro _
   refine al_shrC (k:=.u64) (n:=8 * (7 - i)) (hb:=by show _=((8 * (7 - i):Nat):Int);omega) (hn:=Nat.ble_eq_true_of_le (show 8 * (7 - i)<=64 by omega)) ?_
   repeat' first|refine Wz ?_|intro _
   rw [<- Int.natCast_ediv,u8w]
   refine al_append (hb:=by rw [hlq];simp;omega) (hl:=by rw [hlq];simp [maxLen];omega) (fun v5=>?_)
   repeat' first|refine Wz ?_|intro _
   have hg:=be64_get (8 * s.length) (7 - i) (by omega)
   rw [show 7 - (7 - i)=i by omega] at hg
   have hi8:i < (be64 (8 * s.length)).length:=by omega
   have e:(B++(be64 (8 * s.length)).take i).map u8A++[.lit (u8v (UInt8.ofNat (8 * s.length / 2 ^ (8 * (7 - i)))))]=(B++(be64 (8 * s.length)).take (i + 1)).map u8A:=by
    rw [List.getElem?_eq_getElem hi8] at hg
    injection hg with hg
    rw [<- hg,List.take_succ_eq_append_getElem hi8,<- laa,List.map_append (l₁:=B++List.take i _)]
    rfl
   rw [e]
   have e7:(7:Int) - (i:Int) - 1=7 - ((i + 1:Nat):Int):=by omega
   rw [e7]
   exact ae_round (i + 1,v5) ⟨rfl,rfl,rfl,rfl,rfl,trivial⟩ slr (by simp only;omega) (by simp only;omega)
  ·obtain rfl:i=8:=by omega
   rw [List.take_of_length_le (by omega)] at hlq ⊢
   have hP:B++be64 (8 * s.length)=pad s:=by rw [<- hB,pad,laa];rfl
   rw [hP] at hlq ⊢
   have hlP:(pad s).length=s.length + 1 + padZ s.length + 8:=pad_len s
   have hm64:(pad s).length % 64=0:=by rw [hlP];unfold padZ;omega
   generalize hPP:pad s=P at *
   repeat' first|refine Wz ?_|intro _
   rename_i g8
   refine ac_loop (α:=Nat) (fun i=>[(2,ptr g2),(4,ptr g4),(5,.sl 1 (P.map u8A) (some v4)),(8,ptr g8),(9,int i)]) (fun i=>[.var g8 339 (.agg 8 (fill w32v (w32v 0) h0.words i)),.tail 5 1 v4,.var g4 38 (hA zeroH),.var g2 299 tabA])
    (fun i=>i<=8) (fun i=>8 - i) 0 ⟨rfl,rfl,rfl,rfl,rfl,trivial⟩ slr (Nat.zero_le _) ?_
   intro i hi
   have hw8:h0.words.length=8:=rfl
   repeat' first|refine Wz ?_|intro _
   refine ac_cond (fun hlt=>?_) (fun hlt=>?_)
   ·have hi8:i < h0.words.length:=by omega
    repeat' first|refine Wz ?_|intro _
    refine al_idxM (l:=h0.words) (f:=fun x=>.lit (w32v x)) i hi8 ?_
    repeat' first|refine Wz ?_|intro _
    refine al_idxA i ?_
    repeat' first|refine Wz ?_|intro _
    refine al_storeE (j:=i) (ps:=fill w32v (w32v 0) h0.words i) (by rw [fill_len (by omega)];omega) ?_
    rw [fill_set hi8]
    repeat' first|refine Wz ?_|intro _
    exact ae_round (i + 1) ⟨rfl,rfl,rfl,rfl,rfl,trivial⟩ slr (by omega) (by omega)
   ·obtain rfl:i=h0.words.length:=by omega
    rw [fill_all]
    repeat' first|refine Wz ?_|intro _
    refine ac_loop (α:=Nat) (fun q=>[(2,ptr g2),(4,ptr g4),(5,.sl 1 (P.map u8A) (some v4)),(8,ptr g8),(10,int (64 * (q:Int)))]) (fun q=>[.var g8 339 (hwA (absorb h0 q P)),.tail 5 1 v4,.var g4 38 (hA zeroH),.var g2 299 tabA])
     (fun q=>64 * q<=P.length) (fun q=>P.length - 64 * q) 0 ⟨rfl,rfl,rfl,rfl,rfl,trivial⟩ slr (Nat.zero_le _) ?_
    intro q hq
    have hlPm:(P.map u8A).length=P.length:=llm _
    repeat' first|refine Wz ?_|intro _
    refine ac_cond (fun hlt=>?_) (fun hlt=>?_)
    ·rw [hlPm] at hlt
     repeat' first|refine Wz ?_|intro _
     apply obl_read [];exact rfl;exact rfl;kernel_rfl;intro _ _
     refine al_sliceD (64 * q) (64 * q + 64) ?_
     exact al_nil (ae_got rfl rfl)
     repeat' first|refine Wz ?_|intro _
     have e:compress (absorb h0 q P) ((P.take (64 * q + 64)).drop (64 * q))=absorb h0 (q + 1) P:=by
      rw [absorb_succ,List.drop_take]
      congr 2
      omega
     rw [e]
     have e2:(64:Int) * (q:Int) + 64=64 * ((q + 1:Nat):Int):=by omega
     rw [e2]
     exact ae_round (q + 1) ⟨rfl,rfl,rfl,rfl,rfl,trivial⟩ slr (by omega) (by omega)
    ·rw [hlPm] at hlt
     obtain rfl:q=P.length / 64:=by omega
     have hsha:shaH s=⟨(absorb h0 (P.length / 64) P).bytes,rfl⟩:=Hsh.ext' (by rw [<- hPP];rfl)
     rw [hsha]
     generalize absorb h0 (P.length / 64) P=X at *
     repeat' first|refine Wz ?_|intro _
     rename_i g11
     refine ac_loop (α:=Nat) (fun i=>[(4,ptr g4),(8,ptr g8),(11,ptr g11),(12,int i)]) (fun i=>[.var g11 38 (.agg 32 (fill u8v (u8v 0) X.bytes i)),.var g8 339 (hwA X),.var g4 38 (hA zeroH)])
      (fun i=>i<=32) (fun i=>32 - i) 0 ⟨rfl,rfl,rfl,rfl,trivial⟩ (by repeat (first|exact List.nil_sublist _|exact List.Sublist.refl _|apply List.Sublist.cons_cons|apply List.Sublist.cons)) (Nat.zero_le _) ?_
     intro i hi
     have hb32:X.bytes.length=32:=rfl
     repeat' first|refine Wz ?_|intro _
     refine ac_cond (fun hlt=>?_) (fun hlt=>?_)
     ·have hi32:i < X.bytes.length:=by omega
      repeat' first|refine Wz ?_|intro _
      refine al_idxA (i / 4) ?_
      repeat' first|refine Wz ?_|intro _
      refine al_loadE (j:=i / 4) (ps:=X.words.map fun x=>.lit (w32v x)) (u:=w32A (X.words.getD (i / 4) 0)) (by rw [List.getElem?_map,words_get X (i / 4) (by omega)];rfl) ?_
      repeat' first|refine Wz ?_|intro _
      refine al_shr32 (24 - 8 * (i % 4)) ?_
      repeat' first|refine Wz ?_|intro _
      have hg:=bytes_get X i (by omega)
      rw [List.getElem?_eq_getElem hi32] at hg
      injection hg with hg
      rw [BitVec.toNat_ushiftRight,Nat.shiftRight_eq_div_pow,u8w,<- hg]
      refine al_idxA i ?_
      refine al_storeE (j:=i) (ps:=fill u8v (u8v 0) X.bytes i) (by rw [fill_len (by omega)];omega) ?_
      rw [fill_set hi32]
      repeat' first|refine Wz ?_|intro _
      exact ae_round (i + 1) ⟨rfl,rfl,rfl,rfl,trivial⟩ slr (by omega) (by omega)
     ·obtain rfl:i=X.bytes.length:=by omega
      rw [fill_all]
      repeat' first|refine Wz ?_|intro _
      refine reE ?_
      rfl⟩
end Go.Proofs.YtlmcongmglfaeaaGreatDoor

namespace Go.Proofs.YtlmcongmglfaeaaGreatDoor
open Go Go.RowKit Tw Av
theorem quick_spec {s:Bs}(hl:s.length<=35184372088832):SpecE Tryz.prog GL 194 [str s] (hA (shaH s)):=by
 refine qE Tryz.func194 rfl Tryz.ntmps194 rfl (fun _ hs=>?_)
 repeat' first|refine Wz ?_|intro _
 refine al_callP (args:=[tabA,str s]) (hc:=fnRSum) hl ?_
 repeat' first|refine Wz ?_|intro _
 refine reE ?_
 rfl
instance fnQuick {s:Bs}{n:Nat}[h:LenLe s n]:Ans Tryz.prog GL 194 [str s] (n<=35184372088832) (hA (shaH s)):=⟨fun hn=>quick_spec (Nat.le_trans h.out hn)⟩
theorem ofH3 (a b c:Bs):ofH [a,b,c]=shaH (a++b++c):=by simp [ofH]
instance fnRLeaf {a b:Bs}:Ans Tryz.prog GL 160 [.agg 2 [str a,str b]] True (hA (leafH ⟨a,b⟩)):=⟨fun _=>by
 refine qE Tryz.func160 rfl Tryz.ntmps160 rfl (fun _ hs=>?_)
 repeat' first|refine Wz ?_|intro _
 refine reE ?_
 rw [leafH,ofH3]
 rfl⟩
instance fnRNode {a b:Hsh}:Ans Tryz.prog GL 276 [hA a,hA b] True (hA (nodeH a b)):=⟨fun _=>by
 refine qE Tryz.func276 rfl Tryz.ntmps276 rfl (fun _ hs=>?_)
 repeat' first|refine Wz ?_|intro _
 refine reE ?_
 rw [nodeH,ofH3]
 rfl⟩
instance fnRTop {n:Int}{h:Hsh}:Ans Tryz.prog GL 192 [int n,hA h] (n<=9223372036854775807) (hA (topH n h)):=⟨fun hn=>by
 refine qE Tryz.func192 rfl Tryz.ntmps192 rfl (fun _ hs=>?_)
 repeat' first|refine Wz ?_|intro _
 refine reE ?_
 rw [topH,ofH3]
 rfl⟩
theorem rtree_ans (n:Nat):n<=1000000->∀ {l:List Ent} {xs:List AV} {id:Option Value} [Ents xs l],Ans Tryz.prog GL 193 [.sl 2 xs id] (l.length<=n) (hA (treeH (l.map leafH))):=by
 induction n with
 | zero=>
  intro _ l xs id hx
  refine⟨fun hl=>?_⟩
  have h:=hx.out
  subst h
  obtain rfl:l=[]:=List.eq_nil_of_length_eq_zero (by omega)
  refine qE Tryz.func193 rfl Tryz.ntmps193 rfl (fun _ hs=>?_)
  repeat' first|refine Wz ?_|intro _
  refine reE ?_
  rfl
 | succ n ih=>
  intro hn l xs id hx
  have ih:=@ih (by omega)
  refine⟨fun hl=>?_⟩
  have h:=hx.out
  subst h
  have hm:(l.map entA).length=l.length:=llm _
  refine qE Tryz.func193 rfl Tryz.ntmps193 rfl (fun _ hs=>?_)
  repeat' first|refine Wz ?_|intro _
  refine ac_cond (fun h0=>?_) (fun h0=>?_)
  ·obtain rfl:l=[]:=List.eq_nil_of_length_eq_zero (by omega)
   repeat' first|refine Wz ?_|intro _
   refine reE ?_
   rfl
  ·repeat' first|refine Wz ?_|intro _
   refine ac_cond (fun h1=>?_) (fun h1=>?_)
   ·obtain⟨x,rfl⟩:∃ x,l=[x]:=List.length_eq_one_iff.1 (by omega)
    repeat' first|refine Wz ?_|intro _
    refine al_idxM 0 (show 0 < [x].length by simp) ?_
    repeat' first|refine Wz ?_|intro _
    refine reE ?_
    rfl
   ·repeat' first|refine Wz ?_|intro _
    have hk0:(((l.map entA).length:Int) + 1) / 2=(((l.length + 1) / 2:Nat):Int):=by omega
    rw [hk0]
    have hst:=treeH_step (l.map leafH) (by rw [llm];omega)
    rw [llm,<- List.map_take,<- List.map_drop] at hst
    generalize hk:(l.length + 1) / 2=k at *
    apply obl_read [];exact rfl;exact rfl;kernel_rfl;intro _ _
    refine al_sliceD 0 k ?_
    exact al_nil (ae_got rfl rfl)
    repeat' first|refine Wz ?_|intro _
    apply obl_read [];exact rfl;exact rfl;kernel_rfl;intro _ _
    refine al_sliceD k l.length ?_
    exact al_nil (ae_got rfl rfl)
    repeat' first|refine Wz ?_|intro _
    refine reE ?_
    rw [hst,List.drop_zero,List.take_length]
    rfl
instance fnRTree {l:List Ent}{xs:List AV}{id:Option Value}[Ents xs l]:Ans Tryz.prog GL 193 [.sl 2 xs id] (l.length<=1000000) (hA (treeH (l.map leafH))):=rtree_ans 1000000 (Nat.le_refl _)
instance fnRRoot {d:List Ent}{xs:List AV}{id:Option Value}[hx:Ents xs d]:Ans Tryz.prog GL 116 [.sl 2 xs id] (d.length<=1000000) (hA (topH d.length (treeH (d.map leafH)))):=⟨fun hl=>by
 have h:=hx.out
 subst h
 have hm:(d.map leafH).length=d.length:=llm _
 have hm2:(d.map entA).length=d.length:=llm _
 refine qE Tryz.func116 rfl Tryz.ntmps116 rfl (fun _ hs=>?_)
 repeat' first|refine Wz ?_|intro _
 refine reE ?_
 rw [<- hm2]
 rfl⟩

def pathDown:List WayStep->List Hsh->List Hsh
 | [],_=>[]
 | t::ts,l=>if t.1=true then treeH (l.drop t.2.1)::pathDown ts (l.take t.2.1) else treeH (l.take t.2.1)::pathDown ts (l.drop t.2.1)
def pathH (l:List Hsh)(i:Int):List Hsh:=(pathDown (wayOf l.length i) l).reverse
def upH:List WayStep->Hsh->List Hsh->Hsh
 | [],h,_=>h
 | t::ts,h,p=>if t.1=true then nodeH (upH ts h p.dropLast) (p.getLastD zeroH) else nodeH (p.getLastD zeroH) (upH ts h p.dropLast)
def foldH (n i:Int)(h:Hsh)(p:List Hsh):Option Hsh:=if i < 0\/n<=i\/2000 < n\/(wayOf n i).length≠p.length then none else some (topH n (upH (wayOf n i) h p))
theorem pathDown_len:∀ (ts:List WayStep) (l:List Hsh),(pathDown ts l).length=ts.length
 | [],_=>rfl
 | t::ts,l=>by
  unfold pathDown
  split <;> simp [pathDown_len ts]
theorem turns_len:∀ (f n i:Nat),n<=f->(turns n i).length<=n
 | 0,n,i,h=>by
  obtain rfl:n=0:=by omega
  simp [turns,turnsF]
 | f + 1,n,i,h=>by
  by_cases hn:1 < n
  ·rw [turns_step n i hn,List.length_cons]
   split
   ·have:=turns_len f ((n + 1) / 2) i (by omega)
    omega
   ·have:=turns_len f (n - (n + 1) / 2) (i - (n + 1) / 2) (by omega)
    omega
  ·obtain rfl|rfl:n=0\/n=1:=by omega
   ·simp [turns,turnsF]
   ·simp [turns_one]
theorem pathH_len (l:List Hsh)(i:Int):(pathH l i).length=(wayOf l.length i).length:=by simp [pathH,pathDown_len]
theorem way_len (n:Nat)(i:Int):(wayOf n i).length<=n:=by
 unfold wayOf
 split
 ·simp
 ·exact turns_len n _ _ (by simp)
theorem way_eq {n i:Nat}(h:i < n)(hn:n<=2000):wayOf (n:Int) (i:Int)=turns n i:=by
 unfold wayOf
 rw [if_neg (by omega)]
 simp
theorem getLastD_append {α:Type}(l:List α)(x z:α):(l++[x]).getLastD z=x:=by simp [List.getLastD_eq_getLast?]
theorem upH_snoc (t:WayStep)(ts:List WayStep)(h x:Hsh)(p:List Hsh):upH (t::ts) h (p++[x])=if t.1=true then nodeH (upH ts h p) x else nodeH x (upH ts h p):=by
 rw [upH,List.dropLast_concat,getLastD_append]
theorem way_row {n i:Nat}(_h:i < n)(hn:1 < n):turns n i=(decide (i < (n + 1) / 2),(n + 1) / 2,n - (n + 1) / 2)::turns (if i < (n + 1) / 2 then (n + 1) / 2 else n - (n + 1) / 2) (if i < (n + 1) / 2 then i else i - (n + 1) / 2):=by
 rw [turns_step n i hn]
 split <;> rfl

end Go.Proofs.YtlmcongmglfaeaaGreatDoor
