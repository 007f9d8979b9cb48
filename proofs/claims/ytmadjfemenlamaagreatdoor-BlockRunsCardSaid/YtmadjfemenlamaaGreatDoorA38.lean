/- coins that go, walked: the program's -/
import Derived.Test.YtmadjfemenlamaaGreatDoorA23
import Derived.Test.YtmadjfemenlamaaGreatDoorA37
namespace Go.Proofs.YtmadjfemenlamaaGreatDoor
open Go Go.RowKit Tw Av
instance fnBKey {a c:Bs}:Ans Tryz.prog GL 233 [str a,str c] True (str (balK a c)):=⟨fun _=>by
 refine spec_enter Tryz.func233 rfl Tryz.ntmps233 rfl (fun _ hs=>?_)
 repeat' first|refine Vz ?_|intro _
 refine reE ?_
 rfl⟩
instance fnBTotal {c:Bs}:Ans Tryz.prog GL 232 [str c] True (str (totK c)):=⟨fun _=>by
 refine spec_enter Tryz.func232 rfl Tryz.ntmps232 rfl (fun _ hs=>?_)
 repeat' first|refine Vz ?_|intro _
 refine reE ?_
 rfl⟩
instance fnRBKey {a c:Bs}:Ans Tryz.prog GL 280 [str a,str c] True (str (balK a c)):=⟨fun _=>by
 refine spec_enter Tryz.func280 rfl Tryz.ntmps280 rfl (fun _ hs=>?_)
 repeat' first|refine Vz ?_|intro _
 refine reE ?_
 rfl⟩
instance fnRBTotal {c:Bs}:Ans Tryz.prog GL 279 [str c] True (str (totK c)):=⟨fun _=>by
 refine spec_enter Tryz.func279 rfl Tryz.ntmps279 rfl (fun _ hs=>?_)
 repeat' first|refine Vz ?_|intro _
 refine reE ?_
 rfl⟩
instance fnBGet {d:List Ent}{k:Bs}{xs:List AV}{id:Option Value}[hx:Ents xs d]:Ans Tryz.prog GL 313 [.agg 1 [.sl 2 xs id],str k] (DOk d) (widA (getW d k)):=⟨fun hd=>by
 have hv:(valE d k).length≤1000000000:=Nat.le_trans (hd.val k) (by decide)
 refine spec_enter Tryz.func313 rfl Tryz.ntmps313 rfl (fun _ hs=>?_)
 repeat' first|refine Vz ?_|intro _
 unfold getW
 by_cases h:(valE d k).length=32
 ·simp only [if_pos h]
  repeat' first|refine Zz ?_|intro _
  refine reE ?_
  rfl
 ·simp only [if_neg h]
  repeat' first|refine Zz ?_|intro _
  refine reE ?_
  rfl⟩
instance fnRBGet {d:List Ent}{k:Bs}{xs:List AV}{id:Option Value}[hx:Ents xs d]:Ans Tryz.prog GL 338 [.sl 2 xs id,str k] (DOk d) (widA (getW d k)):=⟨fun hd=>by
 have hv:(valE d k).length≤1000000000:=Nat.le_trans (hd.val k) (by decide)
 refine spec_enter Tryz.func338 rfl Tryz.ntmps338 rfl (fun _ hs=>?_)
 repeat' first|refine Vz ?_|intro _
 unfold getW
 by_cases h:(valE d k).length=32
 ·simp only [if_pos h]
  repeat' first|refine Zz ?_|intro _
  refine reE ?_
  rfl
 ·simp only [if_neg h]
  repeat' first|refine Zz ?_|intro _
  refine reE ?_
  rfl⟩
instance fnBBalance {d:List Ent}{a c:Bs}{xs:List AV}{id:Option Value}[hx:Ents xs d]:Ans Tryz.prog GL 229 [.agg 1 [.sl 2 xs id],str a,str c] (DOk d) (widA (getW d (balK a c))):=⟨fun hd=>by
 refine spec_enter Tryz.func229 rfl Tryz.ntmps229 rfl (fun _ hs=>?_)
 repeat' first|refine Vz ?_|intro _
 refine reE ?_
 rfl⟩
instance fnRBBalance {d:List Ent}{a c:Bs}{xs:List AV}{id:Option Value}[hx:Ents xs d]:Ans Tryz.prog GL 277 [.sl 2 xs id,str a,str c] (DOk d) (widA (getW d (balK a c))):=⟨fun hd=>by
 refine spec_enter Tryz.func277 rfl Tryz.ntmps277 rfl (fun _ hs=>?_)
 repeat' first|refine Vz ?_|intro _
 refine reE ?_
 rfl⟩
instance fnRBSupply {d:List Ent}{c:Bs}{xs:List AV}{id:Option Value}[hx:Ents xs d]:Ans Tryz.prog GL 276 [.sl 2 xs id,str c] (DOk d) (widA (getW d (totK c))):=⟨fun hd=>by
 refine spec_enter Tryz.func276 rfl Tryz.ntmps276 rfl (fun _ hs=>?_)
 repeat' first|refine Vz ?_|intro _
 refine reE ?_
 rfl⟩
set_option maxHeartbeats 1000000 in
instance fnBMay {c:Bs}{n:Wd}{l:List Bs}{xs:List AV}{id:Option Value}[hx:Strs xs l]:Ans Tryz.prog GL 227 [str c,widA n,.sl 1 xs id] True (boo (l.all nameB && (dnmB c && decide (n.n≠0)))):=⟨fun _=>by
 have h:=hx.out
 subst h
 have hm:(l.map str).length=l.length:=List.length_map _
 refine spec_enter Tryz.func227 rfl Tryz.ntmps227 rfl (fun _ hs=>?_)
 refine ac_bnd 2 (fun hb=>?_)
 have hb:=maxLen_le hb
 repeat' first|refine Vz ?_|intro _
 rename_i g4
 refine ac_loop (α:=Nat) (fun i=>[(0,str c),(4,ptr g4),(9,.sl 1 (l.map str) id),(10,int (l.map str).length),(11,int i)]) (fun i=>[.var g4 58 (widA n)]) (fun i=>i≤l.length∧∀ j,(hj:j < l.length)→j < i→nameB l[j]=true) (fun i=>l.length - i) 0 ⟨rfl,rfl,rfl,rfl,rfl,trivial⟩ (List.Sublist.refl _) ⟨Nat.zero_le _,fun _ _ h=>absurd h (by omega)⟩ ?_
 rintro i ⟨hi,hall⟩
 repeat' first|refine Vz ?_|intro _
 refine ac_cond (fun hlt=>?_) (fun hlt=>?_)
 ·have hil:i < l.length:=by omega
  repeat' first|refine Vz ?_|intro _
  refine ac_cond (fun h=>?_) (fun h=>?_)
  ·have hb:nameB l[i]=false:=decide_eq_false h
   repeat' first|refine Vz ?_|intro _
   refine reE ?_
   have:l.all nameB=false:=List.all_eq_false.2 ⟨_,List.getElem_mem hil,by rw [hb];decide⟩
   rw [this]
   rfl
  ·have hb:nameB l[i]=true:=decide_eq_true (Classical.not_not.1 h)
   repeat' first|refine Vz ?_|intro _
   refine ae_round (i + 1) ⟨rfl,rfl,rfl,rfl,rfl,trivial⟩ (List.Sublist.refl _) ⟨hil,fun j hj h=>?_⟩ (by omega)
   by_cases hj2:j < i
   ·exact hall j hj hj2
   ·obtain rfl:j=i:=by omega
    exact hb
 ·obtain rfl:i=l.length:=by omega
  have ht:l.all nameB=true:=List.all_eq_true.2 fun x hx=>by
   obtain⟨j,hj,rfl⟩:=List.getElem_of_mem hx
   exact hall j hj hj
  rw [ht,Bool.true_and]
  repeat' first|refine Vz ?_|intro _
  cases h2:dnmB c
  ·repeat' first|refine Zz ?_|intro _
   refine reE ?_
   rfl
  ·repeat' first|refine Zz ?_|intro _
   refine reE ?_
   rfl⟩
abbrev dSl (d:List Ent):AV:=.sl 2 (d.map entA) none
instance fnRBSet {d:List Ent}{k:Bs}{n:Wd}{xs:List AV}{id:Option Value}[hx:Ents xs d]:Ans Tryz.prog GL 339 [.sl 2 xs id,str k,widA n] (DOk d) (.tup [dSl (setR k n.n d).1,int (setR k n.n d).2]):=⟨fun hd=>by
 refine spec_enter Tryz.func339 rfl Tryz.ntmps339 rfl (fun _ hs=>?_)
 repeat' first|refine Vz ?_|intro _
 rw [wd_z]
 unfold setR
 by_cases h:n.n=0
 ·rw [if_pos h]
  repeat' first|refine Zz ?_|intro _
  refine reE ?_
  rfl
 ·rw [if_neg h]
  repeat' first|refine Zz ?_|intro _
  refine reE ?_
  rfl⟩
theorem setR_dok {d:List Ent}{k:Bs}{n:Nat}(h:DOk d):DOk (setR k n d).1:=by
 unfold setR
 split
 ·exact h.drp _
 ·exact putR_dok h
theorem putR_nil {d:List Ent}{k v:Bs}(h:(putR d k v).2≠0):(putR d k v).1=[]:=by
 unfold putR at h ⊢
 split
 ·rename_i h1
  rw [if_pos h1] at h
  exact absurd rfl h
 ·rfl
theorem setR_nil {d:List Ent}{k:Bs}{n:Nat}(h:(setR k n d).2≠0):(setR k n d).1=[]:=by
 unfold setR at h ⊢
 split
 ·rename_i h1
  rw [if_pos h1] at h
  exact absurd rfl h
 ·rename_i h1
  rw [if_neg h1] at h
  exact putR_nil h
theorem nil_imp (n:Int):Imp (outOf [.lit (.slice none 0 0),int n]) (.tup [dSl [],int n]):=(inferInstance:ImpR (.tup [.lit (.slice none 0 0),int n]) (.tup [.sl 2 [] none,int n])).imp
instance fnRBTwo {d:List Ent}{a b:Bs}{n m:Wd}{xs:List AV}{id:Option Value}[hx:Ents xs d]:Ans Tryz.prog GL 278 [.sl 2 xs id,str a,widA n,str b,widA m] (DOk d) (.tup [dSl (thenR (setR a n.n) (setR b m.n) d).1,int (thenR (setR a n.n) (setR b m.n) d).2]):=⟨fun hd=>by
 refine spec_enter Tryz.func278 rfl Tryz.ntmps278 rfl (fun _ hs=>?_)
 repeat' first|refine Vz ?_|intro _
 unfold thenR
 have h2:=setR_dok (k:=a) (n:=n.n) hd
 by_cases h:(setR a n.n d).2=0
 ·rw [if_pos h]
  repeat' first|refine Zz ?_|intro _
  by_cases h3:(setR b m.n (setR a n.n d).1).2=0
  ·repeat' first|refine Zz ?_|intro _
   refine reE ?_
   rw [h3]
   rfl
  ·repeat' first|refine Zz ?_|intro _
   refine reI ?_
   rw [setR_nil h3]
   exact nil_imp _
 ·rw [if_neg h]
  repeat' first|refine Zz ?_|intro _
  refine reI ?_
  rw [setR_nil h]
  exact nil_imp _⟩
end Go.Proofs.YtmadjfemenlamaaGreatDoor

namespace Go.Proofs.YtmadjfemenlamaaGreatDoor
open Go Go.RowKit Tw Av
theorem wIs_t {n:Nat}(h:wIs n=true):n < 115792089237316195423570985008687907853269984665640564039457584007913129639936:=of_decide_eq_true h
attribute [local irreducible] nameB dnmB wIs
set_option maxHeartbeats 2000000 in
instance fnRBMint {d:List Ent}{a c:Bs}{n:Wd}{xs:List AV}{id:Option Value}[hx:Ents xs d]:Ans Tryz.prog GL 185 [.sl 2 xs id,str a,str c,widA n] (DOk d) (.tup [dSl (mintR d a c n).1,int (mintR d a c n).2]):=⟨fun hd=>by
 rw [mint_eq hd]
 refine spec_enter Tryz.func185 rfl Tryz.ntmps185 rfl (fun _ hs=>?_)
 repeat' first|refine Zz ?_|intro _
 unfold mintQ
 by_cases h1:nameB a=false
 ·rw [if_pos (.inl h1),h1]
  repeat' first|refine Zz ?_|intro _
  refine reI ?_
  exact nil_imp _
 have h1':nameB a=true:=by simpa using h1
 by_cases h2:dnmB c=false
 ·rw [if_pos (.inr (.inl h2)),h1',h2]
  repeat' first|refine Zz ?_|intro _
  refine reI ?_
  exact nil_imp _
 have h2':dnmB c=true:=by simpa using h2
 rw [h1',h2']
 repeat' first|refine Zz ?_|intro _
 rw [wd_z]
 by_cases h3:n.n=0
 ·rw [if_pos (.inr (.inr h3))]
  repeat' first|refine Zz ?_|intro _
  refine reI ?_
  exact nil_imp _
 rw [if_neg (by rintro (h|h|h);exact absurd h (by decide);exact absurd h (by decide);exact h3 h)]
 repeat' first|refine Zz ?_|intro _
 cases h4:wIs ((getW d (totK c)).n + n.n)
 ·rw [if_pos (.inl rfl)]
  repeat' first|refine Zz ?_|intro _
  refine reI ?_
  exact nil_imp _
 repeat' first|refine Zz ?_|intro _
 cases h5:wIs ((getW d (balK a c)).n + n.n)
 ·rw [if_pos (.inr rfl)]
  repeat' first|refine Zz ?_|intro _
  refine reI ?_
  exact nil_imp _
 rw [if_neg (by decide)]
 repeat' first|refine Zz ?_|intro _
 refine reE ?_
 rw [wOf_n (wIs_t h4),wOf_n (wIs_t h5)]
 rfl⟩
set_option maxHeartbeats 2000000 in
instance fnRBBurn {d:List Ent}{a c:Bs}{n:Wd}{xs:List AV}{id:Option Value}[hx:Ents xs d]:Ans Tryz.prog GL 296 [.sl 2 xs id,str a,str c,widA n] (DOk d) (.tup [dSl (burnR d a c n).1,int (burnR d a c n).2]):=⟨fun hd=>by
 rw [burn_eq hd]
 refine spec_enter Tryz.func296 rfl Tryz.ntmps296 rfl (fun _ hs=>?_)
 repeat' first|refine Zz ?_|intro _
 unfold burnQ
 by_cases h1:nameB a=false
 ·rw [if_pos (.inl h1),h1]
  repeat' first|refine Zz ?_|intro _
  refine reI ?_
  exact nil_imp _
 have h1':nameB a=true:=by simpa using h1
 by_cases h2:dnmB c=false
 ·rw [if_pos (.inr (.inl h2)),h1',h2]
  repeat' first|refine Zz ?_|intro _
  refine reI ?_
  exact nil_imp _
 have h2':dnmB c=true:=by simpa using h2
 rw [h1',h2']
 repeat' first|refine Zz ?_|intro _
 rw [wd_z]
 by_cases h3:n.n=0
 ·rw [if_pos (.inr (.inr h3))]
  repeat' first|refine Zz ?_|intro _
  refine reI ?_
  exact nil_imp _
 rw [if_neg (by rintro (h|h|h);exact absurd h (by decide);exact absurd h (by decide);exact h3 h)]
 repeat' first|refine Zz ?_|intro _
 by_cases h4:(getW d (totK c)).n < n.n
 ·rw [if_pos (.inl h4),decide_eq_false (Nat.not_le.2 h4)]
  repeat' first|refine Zz ?_|intro _
  refine reI ?_
  exact nil_imp _
 rw [decide_eq_true (Nat.not_lt.1 h4)]
 repeat' first|refine Zz ?_|intro _
 by_cases h5:(getW d (balK a c)).n < n.n
 ·rw [if_pos (.inr h5),decide_eq_false (Nat.not_le.2 h5)]
  repeat' first|refine Zz ?_|intro _
  refine reI ?_
  exact nil_imp _
 rw [if_neg (by rintro (h|h);exact h4 h;exact h5 h),decide_eq_true (Nat.not_lt.1 h5)]
 repeat' first|refine Zz ?_|intro _
 refine reE ?_
 rw [wOf_n (Nat.lt_of_le_of_lt (Nat.sub_le _ _) (getW d (totK c)).lt),wOf_n (Nat.lt_of_le_of_lt (Nat.sub_le _ _) (getW d (balK a c)).lt)]
 rfl⟩
set_option maxHeartbeats 2000000 in
instance fnRBMove {d:List Ent}{a b c:Bs}{n:Wd}{xs:List AV}{id:Option Value}[hx:Ents xs d]:Ans Tryz.prog GL 186 [.sl 2 xs id,str a,str b,str c,widA n] (DOk d) (.tup [dSl (moveR d a b c n).1,int (moveR d a b c n).2]):=⟨fun hd=>by
 have h:=hx.out
 subst h
 rw [move_eq hd]
 refine spec_enter Tryz.func186 rfl Tryz.ntmps186 rfl (fun _ hs=>?_)
 repeat' first|refine Zz ?_|intro _
 unfold moveQ
 by_cases h1:nameB a=false
 ·rw [if_pos (.inl h1),h1]
  repeat' first|refine Zz ?_|intro _
  refine reI ?_
  exact nil_imp _
 have h1':nameB a=true:=by simpa using h1
 by_cases h1b:nameB b=false
 ·rw [if_pos (.inr (.inl h1b)),h1',h1b]
  repeat' first|refine Zz ?_|intro _
  refine reI ?_
  exact nil_imp _
 have h1b':nameB b=true:=by simpa using h1b
 by_cases h2:dnmB c=false
 ·rw [if_pos (.inr (.inr (.inl h2))),h1',h1b',h2]
  repeat' first|refine Zz ?_|intro _
  refine reI ?_
  exact nil_imp _
 have h2':dnmB c=true:=by simpa using h2
 rw [h1',h1b',h2']
 repeat' first|refine Zz ?_|intro _
 rw [wd_z]
 by_cases h3:n.n=0
 ·rw [if_pos (.inr (.inr (.inr h3)))]
  repeat' first|refine Zz ?_|intro _
  refine reI ?_
  exact nil_imp _
 rw [if_neg (by rintro (h|h|h|h);exact absurd h (by decide);exact absurd h (by decide);exact absurd h (by decide);exact h3 h)]
 repeat' first|refine Zz ?_|intro _
 by_cases h4:(getW d (balK a c)).n < n.n
 ·rw [if_pos h4,decide_eq_false (Nat.not_le.2 h4)]
  repeat' first|refine Zz ?_|intro _
  refine reI ?_
  exact nil_imp _
 rw [if_neg h4,decide_eq_true (Nat.not_lt.1 h4)]
 repeat' first|refine Zz ?_|intro _
 by_cases h5:a=b
 ·rw [if_pos h5,decide_eq_true h5]
  repeat' first|refine Zz ?_|intro _
  refine reI ?_
  exact (inferInstance:ImpR (.tup [.sl 2 (d.map entA) id,int 0]) (.tup [.sl 2 (d.map entA) none,int 0])).imp
 rw [if_neg h5,decide_eq_false h5]
 repeat' first|refine Zz ?_|intro _
 cases h6:wIs ((getW d (balK b c)).n + n.n)
 ·rw [if_pos rfl]
  repeat' first|refine Zz ?_|intro _
  refine reI ?_
  exact nil_imp _
 rw [if_neg (by decide)]
 repeat' first|refine Zz ?_|intro _
 refine reE ?_
 rw [wOf_n (Nat.lt_of_le_of_lt (Nat.sub_le _ _) (getW d (balK a c)).lt),wOf_n (wIs_t h6)]
 rfl⟩
end Go.Proofs.YtmadjfemenlamaaGreatDoor

namespace Go.Proofs.YtmadjfemenlamaaGreatDoor
open Go Go.RowKit Tw Av
def Does (f:FuncId)(cs:List Value)(m:List Av.Piece)(R:List Ent→List Ent × Int):Prop:=∀ d,DOk d→Av.Spec Tryz.prog GL f (dA d::cs.map .lit) m fun u m'=>u=.tup [dA (R d).1,int (R d).2]∧m'=m
theorem more_spec {k:Bs}{n:Wd}:Av.Spec Tryz.prog GL 231 [str k,widA n] [] fun u m=>∃ g1 g2,u=fnv 314 [.pointer (some ⟨g1,0,none⟩),.pointer (some ⟨g2,0,none⟩)]∧m=[.var g2 58 (widA n),.var g1 9 (str k)]:=by
 refine spec_enter Tryz.func231 rfl Tryz.ntmps231 rfl (fun _ hs=>?_)
 repeat' first|refine Vz ?_|intro _
 rename_i g1 g2
 refine al_makeFunc (vs:=[.pointer (some ⟨g1,0,none⟩),.pointer (some ⟨g2,0,none⟩)]) ?_
 repeat' first|refine Vz ?_|intro _
 exact reK _ ⟨g1,g2,rfl,rfl⟩ (List.Sublist.refl _)
theorem less_spec {k:Bs}{n:Wd}:Av.Spec Tryz.prog GL 234 [str k,widA n] [] fun u m=>∃ g1 g2,u=fnv 316 [.pointer (some ⟨g1,0,none⟩),.pointer (some ⟨g2,0,none⟩)]∧m=[.var g2 58 (widA n),.var g1 9 (str k)]:=by
 refine spec_enter Tryz.func234 rfl Tryz.ntmps234 rfl (fun _ hs=>?_)
 repeat' first|refine Vz ?_|intro _
 rename_i g1 g2
 refine al_makeFunc (vs:=[.pointer (some ⟨g1,0,none⟩),.pointer (some ⟨g2,0,none⟩)]) ?_
 repeat' first|refine Vz ?_|intro _
 exact reK _ ⟨g1,g2,rfl,rfl⟩ (List.Sublist.refl _)
theorem dnil_imp (n:Int):Imp (outOf [.agg 1 [.lit (.slice none 0 0)],int n]) (.tup [dA [],int n]):=(inferInstance:ImpR (.tup [.agg 1 [.lit (.slice none 0 0)],int n]) (.tup [.agg 1 [.sl 2 [] none],int n])).imp
attribute [local irreducible] wIs
set_option maxHeartbeats 1000000 in
theorem more_does {k:Bs}{n:Wd}{g1 g2:Nat}:Does 314 [.pointer (some ⟨g1,0,none⟩),.pointer (some ⟨g2,0,none⟩)] [.var g2 58 (widA n),.var g1 9 (str k)] (moreR k n):=fun d hd=>by
 show Av.Spec _ _ _ [dA d,ptr g1,ptr g2] _ _
 refine spec_enter Tryz.func314 rfl Tryz.ntmps314 rfl (fun _ hs=>?_)
 repeat' first|refine Zz ?_|intro _
 unfold moreR
 cases h:wIs ((getW d k).n + n.n)
 ·rw [if_neg (by decide)]
  repeat' first|refine Zz ?_|intro _
  refine reIKm _ _ (dnil_imp _) ⟨rfl,rfl⟩ ?_
  exact sbl
 ·rw [if_pos rfl]
  repeat' first|refine Zz ?_|intro _
  refine reIKm _ _ (Imp.of_eq ?_) ⟨rfl,rfl⟩ ?_
  ·rw [wOf_n (wIs_t h)]
   rfl
  ·exact sbl
set_option maxHeartbeats 1000000 in
theorem less_does {k:Bs}{n:Wd}{g1 g2:Nat}:Does 316 [.pointer (some ⟨g1,0,none⟩),.pointer (some ⟨g2,0,none⟩)] [.var g2 58 (widA n),.var g1 9 (str k)] (lessR k n):=fun d hd=>by
 show Av.Spec _ _ _ [dA d,ptr g1,ptr g2] _ _
 have hw:(wOf ((getW d k).n - n.n)).n=(getW d k).n - n.n:=wOf_n (Nat.lt_of_le_of_lt (Nat.sub_le _ _) (getW d k).lt)
 refine spec_enter Tryz.func316 rfl Tryz.ntmps316 rfl (fun _ hs=>?_)
 repeat' first|refine Zz ?_|intro _
 unfold lessR
 by_cases h:(getW d k).n < n.n
 ·rw [if_pos h,decide_eq_false (Nat.not_le.2 h)]
  repeat' first|refine Zz ?_|intro _
  refine reIKm _ _ (dnil_imp _) ⟨rfl,rfl⟩ ?_
  exact sbl
 rw [if_neg h,decide_eq_true (Nat.not_lt.1 h)]
 repeat' first|refine Zz ?_|intro _
 rw [hw]
 by_cases h2:(getW d k).n=n.n
 ·rw [if_pos h2,decide_eq_true (show (getW d k).n - n.n=0 by omega)]
  repeat' first|refine Zz ?_|intro _
  refine reIKm _ _ (Imp.of_eq rfl) ⟨rfl,rfl⟩ ?_
  exact sbl
 ·rw [if_neg h2,decide_eq_false (show ¬ (getW d k).n - n.n=0 by omega)]
  repeat' first|refine Zz ?_|intro _
  refine reIKm _ _ (Imp.of_eq ?_) ⟨rfl,rfl⟩ ?_
  ·rw [hw]
   rfl
  ·exact sbl
end Go.Proofs.YtmadjfemenlamaaGreatDoor

namespace Go.Proofs.YtmadjfemenlamaaGreatDoor
open Go Go.RowKit Tw Av
def dAt (R1 R2:List Ent→List Ent × Int)(d:List Ent):Nat→List Ent
 | 0=>d
 | 1=>(R1 d).1
 | _=>(R2 (R1 d).1).1
set_option maxHeartbeats 2000000 in
theorem does_spec {f1 f2:FuncId}[FnB Tryz.prog f1][FnB Tryz.prog f2]{cs1 cs2:List Value}{m1 m2:List Av.Piece}{R1 R2:List Ent→List Ent × Int}{d:List Ent}(h1:Does f1 cs1 m1 R1)(h2:Does f2 cs2 m2 R2)(hc1:∀ v ∈ cs1,v.oneCell'=true)(hc2:∀ v ∈ cs2,v.oneCell'=true)(hd:DOk d)(hd1:DOk (R1 d).1) :
  Av.Spec Tryz.prog GL 230 [dA d,.sl 1 [fnv f1 cs1,fnv f2 cs2] none] (m1++m2) fun u m=>u=.tup [dA (thenR R1 R2 d).1,int (thenR R1 R2 d).2]∧m=m1++m2:=by
 refine spec_enter Tryz.func230 rfl Tryz.ntmps230 rfl (fun _ hs=>?_)
 repeat' first|refine Vz ?_|intro _
 rename_i g2 g4
 refine ac_loop (α:=Nat) (fun i=>[(2,ptr g2),(4,ptr g4),(5,int 0),(6,int 0),(9,.sl 1 [fnv f1 cs1,fnv f2 cs2] none),(10,int 2),(11,int i)]) (fun i=>[.var g4 35 (.agg 1 [.lit (.slice none 0 0)]),.var g2 35 (dA (dAt R1 R2 d i))]++(m1++m2))
  (fun i=>i≤2∧(1≤i→(R1 d).2=0)∧(2≤i→(R2 (R1 d).1).2=0)) (fun i=>2 - i) 0 ⟨rfl,rfl,rfl,rfl,rfl,rfl,rfl,trivial⟩ (List.Sublist.refl _) ⟨by decide,fun h=>absurd h (by decide),fun h=>absurd h (by decide)⟩ ?_
 rintro i ⟨hi,f1',f2'⟩
 rcases i with _|_|_|i
 ·repeat' first|refine Zz ?_|intro _
  refine al_callV (args:=[dA d]) (cs:=cs1) m1 ([Av.Piece.var g4 35 (.agg 1 [.lit (.slice none 0 0)]),Av.Piece.var g2 35 (dA (d))]++m2) (by rw [hs];exact h1 d hd) (fun u m' hh=>?_) (List.perm_append_comm_assoc _ _ _) (hcs:=hc1)
  obtain⟨rfl,rfl⟩:=hh
  refine al_st (fun ok w h=>h.perm (m':=[Av.Piece.var g4 35 (.agg 1 [.lit (.slice none 0 0)]),Av.Piece.var g2 35 (dA (d))]++(m'++m2)) (List.perm_append_comm_assoc _ _ _)) ?_
  by_cases he:(R1 d).2=0
  ·repeat' first|refine Zz ?_|intro _
   refine ae_as 6 (v:=int (R1 d).2) (v':=int 0) (Imp.of_eq (by rw [he])) ?_
   refine ae_round 1 ⟨rfl,rfl,rfl,rfl,rfl,rfl,rfl,trivial⟩ (List.Sublist.refl _) ⟨by decide,fun _=>he,fun h=>absurd h (by decide)⟩ (by decide)
  ·repeat' first|refine Zz ?_|intro _
   refine reK (m'++m2) ⟨?_,rfl⟩ ((List.sublist_cons_self _ _).trans (List.Sublist.refl _ |>.cons _))
   unfold thenR
   rw [if_neg he]
   rfl
 ·have he1:=f1' (by decide)
  repeat' first|refine Zz ?_|intro _
  refine al_callV (args:=[dA (R1 d).1]) (cs:=cs2) m2 ([Av.Piece.var g4 35 (.agg 1 [.lit (.slice none 0 0)]),Av.Piece.var g2 35 (dA ((R1 d).1))]++m1) (by rw [hs];exact h2 _ hd1) (fun u m' hh=>?_) ?_ (hcs:=hc2)
  rotate_left
  ·exact (List.perm_append_comm (l₁:=[Av.Piece.var g4 35 (.agg 1 [.lit (.slice none 0 0)]),Av.Piece.var g2 35 (dA ((R1 d).1))]++m1) (l₂:=m2)).trans (List.Perm.refl _) |> fun h=>(by rw [← List.append_assoc];exact h)
  obtain⟨rfl,rfl⟩:=hh
  refine al_st (fun ok w h=>h.perm (m':=[Av.Piece.var g4 35 (.agg 1 [.lit (.slice none 0 0)]),Av.Piece.var g2 35 (dA ((R1 d).1))]++(m1++m')) (by rw [← List.append_assoc];exact List.perm_append_comm)) ?_
  have ht:thenR R1 R2 d=R2 (R1 d).1:=by
   unfold thenR
   rw [if_pos he1]
  rw [ht]
  by_cases he:(R2 (R1 d).1).2=0
  ·repeat' first|refine Zz ?_|intro _
   refine ae_as 6 (v:=int (R2 (R1 d).1).2) (v':=int 0) (Imp.of_eq (by rw [he])) ?_
   refine ae_round 2 ⟨rfl,rfl,rfl,rfl,rfl,rfl,rfl,trivial⟩ (List.Sublist.refl _) ⟨by decide,fun _=>he1,fun _=>he⟩ (by decide)
  ·repeat' first|refine Zz ?_|intro _
   refine reK (m1++m') ⟨rfl,rfl⟩ ?_
   exact (List.Sublist.refl _ |>.cons _).cons _
 ·have he1:=f1' (by decide)
  have he2:=f2' (by decide)
  have ht:thenR R1 R2 d=R2 (R1 d).1:=by
   unfold thenR
   rw [if_pos he1]
  rw [ht,he2]
  repeat' first|refine Zz ?_|intro _
  refine reK (m1++m2) ⟨rfl,rfl⟩ ?_
  exact (List.Sublist.refl _ |>.cons _).cons _
 ·omega
end Go.Proofs.YtmadjfemenlamaaGreatDoor

namespace Go.Proofs.YtmadjfemenlamaaGreatDoor
open Go Go.RowKit Tw Av
attribute [local irreducible] nameB dnmB wIs
theorem may1 {a c:Bs}{n:Wd}:([a].all nameB && (dnmB c && decide (n.n≠0)))=false↔nameB a=false∨dnmB c=false∨n.n=0:=by
 simp only [List.all_cons,List.all_nil,Bool.and_true]
 by_cases h:n.n=0 <;> cases nameB a <;> cases dnmB c <;> simp [h]
theorem may2 {a b c:Bs}{n:Wd}:([a,b].all nameB && (dnmB c && decide (n.n≠0)))=false↔nameB a=false∨nameB b=false∨dnmB c=false∨n.n=0:=by
 simp only [List.all_cons,List.all_nil,Bool.and_true]
 by_cases h:n.n=0 <;> cases nameB a <;> cases nameB b <;> cases dnmB c <;> simp [h]
theorem one_cells {g1 g2:Nat}:∀ v ∈ [Value.pointer (some ⟨g1,0,none⟩),.pointer (some ⟨g2,0,none⟩)],v.oneCell'=true:=by simp [Value.oneCell']
set_option maxHeartbeats 4000000 in
instance fnBMint {d:List Ent}{a c:Bs}{n:Wd}{xs:List AV}[hx:Ents xs d]:Ans Tryz.prog GL 140 [.agg 1 [.sl 2 xs none],str a,str c,widA n] (DOk d) (.tup [dA (mintR d a c n).1,int (mintR d a c n).2]):=⟨fun hd=>by
 have h:=hx.out
 subst h
 refine spec_enter Tryz.func140 rfl Tryz.ntmps140 rfl (fun _ hs=>?_)
 repeat' first|refine Zz ?_|intro _
 unfold mintR
 cases h1:[a].all nameB && (dnmB c && decide (n.n≠0))
 ·rw [if_pos (may1.1 h1)]
  repeat' first|refine Zz ?_|intro _
  refine reI ?_
  exact dnil_imp _
 rw [if_neg (fun e=>by rw [may1.2 e] at h1;cases h1)]
 repeat' first|refine Zz ?_|intro _
 cases h2:wIs ((getW d (balK a c)).n + n.n)
 ·rw [if_pos rfl]
  repeat' first|refine Zz ?_|intro _
  refine reI ?_
  exact dnil_imp _
 rw [if_neg (by decide)]
 repeat' (first|refine ct1 ?_|refine op1 ?_|refine opL ?_|refine op2 ?_|intro _)
 refine ac_perm [0,1,2,3,5,6,8,4,7,9,10,11,12,13,14,15] (by kernel_rfl) rfl hs (by kernel_rfl) ?_
 repeat' first|refine Vz ?_|intro _
 apply obl_fresh [];exact rfl;exact rfl;kernel_rfl;kernel_rfl
 intro s' hs'
 refine al_callK (args:=[str (totK c),widA n]) [] _ (by rw [hs'];exact more_spec) (fun u m1 hh=>?_) (List.Perm.refl _)
 obtain⟨k1,n1,rfl,rfl⟩:=hh
 refine al_nil (ae_fresh [] [.var n1 58 (widA n),.var k1 9 (str (totK c))] rfl rfl (List.Perm.refl _) rfl ?_)
 repeat' first|refine Vz ?_|intro _
 apply obl_fresh [];exact rfl;exact rfl;kernel_rfl;kernel_rfl
 intro s' hs'
 refine al_callK (args:=[str (balK a c),widA n]) [] _ (by rw [hs'];exact more_spec) (fun u m1 hh=>?_) (List.Perm.refl _)
 obtain⟨k2,n2,rfl,rfl⟩:=hh
 refine al_nil (ae_fresh [] [.var n2 58 (widA n),.var k2 9 (str (balK a c))] rfl rfl (List.Perm.refl _) rfl ?_)
 repeat' first|refine Vz ?_|intro _
 apply obl_read [4,5,6,7];exact rfl;exact rfl;kernel_rfl;intro s' hs'
 refine al_callK (args:=[dA d,.sl 1 [fnv 314 [.pointer (some ⟨k1,0,none⟩),.pointer (some ⟨n1,0,none⟩)],fnv 314 [.pointer (some ⟨k2,0,none⟩),.pointer (some ⟨n2,0,none⟩)]] none]) [.var n1 58 (widA n),.var k1 9 (str (totK c)),.var n2 58 (widA n),.var k2 9 (str (balK a c))] [] (by rw [hs'];exact does_spec (m1:=[.var n1 58 (widA n),.var k1 9 (str (totK c))]) (m2:=[.var n2 58 (widA n),.var k2 9 (str (balK a c))]) more_does more_does one_cells one_cells hd (moreR_dok hd)) (fun u m1 hh=>?_) (List.Perm.refl _)
 obtain⟨rfl,rfl⟩:=hh
 exact al_nil (ae_got rfl rfl)
 repeat' first|refine Vz ?_|intro _
 refine reE ?_
 rfl⟩
set_option maxHeartbeats 4000000 in
instance fnBBurn {d:List Ent}{a c:Bs}{n:Wd}{xs:List AV}[hx:Ents xs d]:Ans Tryz.prog GL 255 [.agg 1 [.sl 2 xs none],str a,str c,widA n] (DOk d) (.tup [dA (burnR d a c n).1,int (burnR d a c n).2]):=⟨fun hd=>by
 have h:=hx.out
 subst h
 refine spec_enter Tryz.func255 rfl Tryz.ntmps255 rfl (fun _ hs=>?_)
 repeat' first|refine Zz ?_|intro _
 unfold burnR
 cases h1:[a].all nameB && (dnmB c && decide (n.n≠0))
 ·rw [if_pos (may1.1 h1)]
  repeat' first|refine Zz ?_|intro _
  refine reI ?_
  exact dnil_imp _
 rw [if_neg (fun e=>by rw [may1.2 e] at h1;cases h1)]
 repeat' (first|refine ct1 ?_|refine op1 ?_|refine opL ?_|refine op2 ?_|intro _)
 refine ac_perm [0,1,2,3,5,6,8,4,7,9,10,11,12,13,14,15] (by kernel_rfl) rfl hs (by kernel_rfl) ?_
 repeat' first|refine Vz ?_|intro _
 apply obl_fresh [];exact rfl;exact rfl;kernel_rfl;kernel_rfl
 intro s' hs'
 refine al_callK (args:=[str (totK c),widA n]) [] _ (by rw [hs'];exact less_spec) (fun u m1 hh=>?_) (List.Perm.refl _)
 obtain⟨k1,n1,rfl,rfl⟩:=hh
 refine al_nil (ae_fresh [] [.var n1 58 (widA n),.var k1 9 (str (totK c))] rfl rfl (List.Perm.refl _) rfl ?_)
 repeat' first|refine Vz ?_|intro _
 apply obl_fresh [];exact rfl;exact rfl;kernel_rfl;kernel_rfl
 intro s' hs'
 refine al_callK (args:=[str (balK a c),widA n]) [] _ (by rw [hs'];exact less_spec) (fun u m1 hh=>?_) (List.Perm.refl _)
 obtain⟨k2,n2,rfl,rfl⟩:=hh
 refine al_nil (ae_fresh [] [.var n2 58 (widA n),.var k2 9 (str (balK a c))] rfl rfl (List.Perm.refl _) rfl ?_)
 repeat' first|refine Vz ?_|intro _
 apply obl_read [3,4,5,6];exact rfl;exact rfl;kernel_rfl;intro s' hs'
 refine al_callK (args:=[dA d,.sl 1 [fnv 316 [.pointer (some ⟨k1,0,none⟩),.pointer (some ⟨n1,0,none⟩)],fnv 316 [.pointer (some ⟨k2,0,none⟩),.pointer (some ⟨n2,0,none⟩)]] none]) [.var n1 58 (widA n),.var k1 9 (str (totK c)),.var n2 58 (widA n),.var k2 9 (str (balK a c))] [] (by rw [hs'];exact does_spec (m1:=[.var n1 58 (widA n),.var k1 9 (str (totK c))]) (m2:=[.var n2 58 (widA n),.var k2 9 (str (balK a c))]) less_does less_does one_cells one_cells hd (lessR_dok hd)) (fun u m1 hh=>?_) (List.Perm.refl _)
 obtain⟨rfl,rfl⟩:=hh
 exact al_nil (ae_got rfl rfl)
 repeat' first|refine Vz ?_|intro _
 refine reE ?_
 rfl⟩
set_option maxHeartbeats 4000000 in
instance fnBMove {d:List Ent}{a b c:Bs}{n:Wd}{xs:List AV}[hx:Ents xs d]:Ans Tryz.prog GL 142 [.agg 1 [.sl 2 xs none],str a,str b,str c,widA n] (DOk d) (.tup [dA (moveR d a b c n).1,int (moveR d a b c n).2]):=⟨fun hd=>by
 have h:=hx.out
 subst h
 refine spec_enter Tryz.func142 rfl Tryz.ntmps142 rfl (fun _ hs=>?_)
 repeat' first|refine Zz ?_|intro _
 unfold moveR
 cases h1:[a,b].all nameB && (dnmB c && decide (n.n≠0))
 ·rw [if_pos (may2.1 h1)]
  repeat' first|refine Zz ?_|intro _
  refine reI ?_
  exact dnil_imp _
 rw [if_neg (fun e=>by rw [may2.2 e] at h1;cases h1)]
 repeat' (first|refine ct1 ?_|refine op1 ?_|refine opL ?_|refine op2 ?_|intro _)
 refine ac_perm [0,1,2,4,6,7,9,3,5,8,10,11,12,13,14,15,16,17,18] (by kernel_rfl) rfl hs (by kernel_rfl) ?_
 repeat' first|refine Vz ?_|intro _
 apply obl_freshF [35] [];exact rfl;exact rfl;kernel_rfl;kernel_rfl;kernel_rfl;exact⟨⟨_,inferInstance⟩,trivial⟩
 intro s' hs'
 refine al_callK (args:=[str (balK a c),widA n]) [] _ (by rw [hs'];exact less_spec) (fun u m1 hh=>?_) (List.Perm.refl _)
 obtain⟨k1,n1,rfl,rfl⟩:=hh
 refine al_nil (ae_fresh [] [.var n1 58 (widA n),.var k1 9 (str (balK a c))] rfl rfl (List.Perm.refl _) rfl ?_)
 repeat' first|refine Vz ?_|intro _
 apply obl_freshF [35] [];exact rfl;exact rfl;kernel_rfl;kernel_rfl;kernel_rfl;exact⟨⟨_,inferInstance⟩,trivial⟩
 intro s' hs'
 refine al_callK (args:=[str (balK b c),widA n]) [] _ (by rw [hs'];exact more_spec) (fun u m1 hh=>?_) (List.Perm.refl _)
 obtain⟨k2,n2,rfl,rfl⟩:=hh
 refine al_nil (ae_fresh [] [.var n2 58 (widA n),.var k2 9 (str (balK b c))] rfl rfl (List.Perm.refl _) rfl ?_)
 repeat' first|refine Vz ?_|intro _
 apply obl_read [3,4,5,6];exact rfl;exact rfl;kernel_rfl;intro s' hs'
 refine al_callK (args:=[dA d,.sl 1 [fnv 316 [.pointer (some ⟨k1,0,none⟩),.pointer (some ⟨n1,0,none⟩)],fnv 314 [.pointer (some ⟨k2,0,none⟩),.pointer (some ⟨n2,0,none⟩)]] none]) [.var n1 58 (widA n),.var k1 9 (str (balK a c)),.var n2 58 (widA n),.var k2 9 (str (balK b c))] [] (by rw [hs'];exact does_spec (m1:=[.var n1 58 (widA n),.var k1 9 (str (balK a c))]) (m2:=[.var n2 58 (widA n),.var k2 9 (str (balK b c))]) less_does more_does one_cells one_cells hd (lessR_dok hd)) (fun u m1 hh=>?_) (List.Perm.refl _)
 obtain⟨rfl,rfl⟩:=hh
 exact al_nil (ae_got rfl rfl)
 iterate 3 refine ob1 ?_
 apply obl_float [35];kernel_rfl;kernel_rfl;kernel_rfl;exact⟨⟨_,inferInstance⟩,trivial⟩;intro g3
 repeat' first|refine Vz ?_|intro _
 generalize hR:thenR (lessR (balK a c) n) (moreR (balK b c) n) d=R
 by_cases hab:a=b
 ·rw [decide_eq_true hab]
  repeat' first|refine Vz ?_|intro _
  by_cases he:R.2=16
  ·rw [decide_eq_false (not_not_intro he)]
   repeat' first|refine Vz ?_|intro _
   refine reE ?_
   simp [hab,he,hR]
   rfl
  ·rw [decide_eq_true he]
   repeat' first|refine Vz ?_|intro _
   refine reE ?_
   simp [hab,he,hR]
   rfl
 ·rw [decide_eq_false hab]
  repeat' first|refine Vz ?_|intro _
  refine reE ?_
  simp [hab,hR]
  rfl⟩
end Go.Proofs.YtmadjfemenlamaaGreatDoor

namespace Go.Proofs.YtmadjfemenlamaaGreatDoor
open Go Go.RowKit Tw Av
instance fnTHome {q:Int}{s k d:Bs}{a:Wd}{f g:Bs}{h t:Int}:Ans Tryz.prog GL 327 [.agg 12 [int q,str s,str k,.agg 7 [str d,widA a,str f,str g],int h,int t]] (s.length≤1000000000∧d.length≤1000000000) (boo (homeP ⟨q,s,k,d,a,f,g,h,t⟩)):=⟨fun hp=>by
 refine spec_enter Tryz.func327 rfl Tryz.ntmps327 rfl (fun _ hs=>?_)
 repeat' first|refine Zz ?_|intro _
 refine reE ?_
 rfl⟩
instance fnR17Home {q:Int}{s k d:Bs}{a:Wd}{f g:Bs}{h t:Int}:Ans Tryz.prog GL 295 [.agg 12 [int q,str s,str k,.agg 7 [str d,widA a,str f,str g],int h,int t]] (s.length≤1000000000∧d.length≤1000000000) (boo (homeP ⟨q,s,k,d,a,f,g,h,t⟩)):=⟨fun hp=>by
 refine spec_enter Tryz.func295 rfl Tryz.ntmps295 rfl (fun _ hs=>?_)
 repeat' first|refine Zz ?_|intro _
 refine reE ?_
 rfl⟩
theorem arr_t {s d:Bs}(h:retB s d=true):retT s d=d.drop (s.length + 1):=by
 unfold retT
 rw [if_pos h]
instance fnTArr {q:Int}{s k d:Bs}{a:Wd}{f g:Bs}{h t:Int}:Ans Tryz.prog GL 262 [.agg 12 [int q,str s,str k,.agg 7 [str d,widA a,str f,str g],int h,int t]] (s.length≤1000000000∧d.length≤1000000000∧k.length≤1000000000) (str (arrP ⟨q,s,k,d,a,f,g,h,t⟩)):=⟨fun hp=>by
 obtain⟨h1,h2,h3⟩:=hp
 show Av.Spec _ _ _ _ _ fun v m'=>v=str (if retB s d=true then d.drop (s.length + 1) else k++[47]++d)∧m'=[]
 refine spec_enter Tryz.func262 rfl Tryz.ntmps262 rfl (fun _ hs=>?_)
 repeat' first|refine Zz ?_|intro _
 cases hr:retB s d
 ·rw [if_neg (show ¬ false=true by decide)]
  repeat' first|refine Zz ?_|intro _
  refine reE ?_
  rfl
 ·rw [if_pos rfl,← arr_t hr]
  repeat' first|refine Zz ?_|intro _
  refine reE ?_
  rfl⟩
instance fnR17Arr {q:Int}{s k d:Bs}{a:Wd}{f g:Bs}{h t:Int}:Ans Tryz.prog GL 298 [.agg 12 [int q,str s,str k,.agg 7 [str d,widA a,str f,str g],int h,int t]] (s.length≤1000000000∧d.length≤1000000000∧k.length≤1000000000) (str (arrP ⟨q,s,k,d,a,f,g,h,t⟩)):=⟨fun hp=>by
 obtain⟨h1,h2,h3⟩:=hp
 have hl:(k++[47]).length=k.length + 1:=by rw [List.length_append];rfl
 show Av.Spec _ _ _ _ _ fun v m'=>v=str (if retB s d=true then d.drop (s.length + 1) else k++[47]++d)∧m'=[]
 refine spec_enter Tryz.func298 rfl Tryz.ntmps298 rfl (fun _ hs=>?_)
 repeat' first|refine Zz ?_|intro _
 cases hr:retB s d
 ·rw [if_neg (show ¬ false=true by decide)]
  repeat' first|refine Zz ?_|intro _
  refine reE ?_
  rfl
 ·rw [if_pos rfl,← arr_t hr]
  repeat' first|refine Zz ?_|intro _
  refine reE ?_
  rfl⟩
abbrev mvA (d:Bs)(a:Wd)(f g:Bs):AV:=.agg 7 [.agg 7 [str d,widA a,str f,str g]]
instance fnMvMove {e:List Ent}{d:Bs}{n:Wd}{f g a b c:Bs}{xs:List AV}[hx:Ents xs e]:Ans Tryz.prog GL 257 [.agg 7 [.agg 7 [str d,widA n,str f,str g]],.agg 1 [.sl 2 xs none],str a,str b,str c] (DOk e) (.tup [dA (moveR e a b c n).1,int (moveR e a b c n).2]):=⟨fun hd=>by
 have h:=hx.out
 subst h
 refine spec_enter Tryz.func257 rfl Tryz.ntmps257 rfl (fun _ hs=>?_)
 repeat' first|refine Zz ?_|intro _
 refine reE ?_
 rfl⟩
instance fnMvMint {e:List Ent}{d:Bs}{n:Wd}{f g a c:Bs}{xs:List AV}[hx:Ents xs e]:Ans Tryz.prog GL 265 [.agg 7 [.agg 7 [str d,widA n,str f,str g]],.agg 1 [.sl 2 xs none],str a,str c] (DOk e) (.tup [dA (mintR e a c n).1,int (mintR e a c n).2]):=⟨fun hd=>by
 have h:=hx.out
 subst h
 refine spec_enter Tryz.func265 rfl Tryz.ntmps265 rfl (fun _ hs=>?_)
 repeat' first|refine Zz ?_|intro _
 refine reE ?_
 rfl⟩
def Goes (F:FuncId)(cs:List Value)(m:List Av.Piece)(M:AV)(r:List Ent × Int):Prop:=Av.Spec Tryz.prog GL F (M::cs.map .lit) m fun u m'=>u=.tup [dA r.1,int r.2]∧m'=m
set_option maxHeartbeats 1000000 in
theorem tdoes_spec {f1 f2:FuncId}[FnB Tryz.prog f1][FnB Tryz.prog f2]{cs1 cs2:List Value}{m:List Av.Piece}{r1 r2:List Ent × Int}{q:Int}{s k d:Bs}{a:Wd}{f g:Bs}{h t:Int}(h1:Goes f1 cs1 m (mvA d a f g) r1)(h2:Goes f2 cs2 m (mvA d a f g) r2)(hc1:∀ v ∈ cs1,v.oneCell'=true)(hc2:∀ v ∈ cs2,v.oneCell'=true)(hp:s.length≤1000000000∧d.length≤1000000000){R:List Ent × Int}
  (hR:R=if chkP ⟨q,s,k,d,a,f,g,h,t⟩=false then ([],1) else if homeP ⟨q,s,k,d,a,f,g,h,t⟩=true then r1 else r2) :
  Av.Spec Tryz.prog GL 253 [.agg 12 [int q,str s,str k,.agg 7 [str d,widA a,str f,str g],int h,int t],fnv f1 cs1,fnv f2 cs2] m fun u m'=>u=.tup [dA R.1,int R.2]∧m'=m:=by
 subst hR
 refine spec_enter Tryz.func253 rfl Tryz.ntmps253 rfl (fun _ hs=>?_)
 repeat' first|refine Zz ?_|intro _
 rename_i g3 g2 g1
 unfold chkN
 cases hc:chkP ⟨q,s,k,d,a,f,g,h,t⟩
 ·rw [if_neg (show ¬ false=true by decide),if_pos rfl,decide_eq_true (show (1:Int)≠0 by decide)]
  repeat' first|refine Zz ?_|intro _
  refine reIKm _ m (dnil_imp _) ⟨rfl,rfl⟩ ?_
  exact sbl
 rw [if_pos rfl,if_neg (show ¬ true=false by decide),decide_eq_false (show ¬ (0:Int)≠0 by decide)]
 repeat' first|refine Zz ?_|intro _
 cases hh:homeP ⟨q,s,k,d,a,f,g,h,t⟩
 ·rw [if_neg (show ¬ false=true by decide)]
  repeat' first|refine Zz ?_|intro _
  refine al_callV (args:=[mvA d a f g]) (cs:=cs2) m [Av.Piece.var g1 292 (mvA d a f g),.var g2 35 (.agg 1 [.lit (.slice none 0 0)]),.var g3 62 (.agg 12 [int q,str s,str k,.agg 7 [str d,widA a,str f,str g],int h,int t])] (by rw [hs];exact h2) (fun u m' hh=>?_) (List.perm_append_comm (l₁:=[Av.Piece.var g1 292 (mvA d a f g),.var g2 35 (.agg 1 [.lit (.slice none 0 0)]),.var g3 62 (.agg 12 [int q,str s,str k,.agg 7 [str d,widA a,str f,str g],int h,int t])]) (l₂:=m)) (hcs:=hc2)
  obtain⟨rfl,rfl⟩:=hh
  refine al_st (fun ok w hS=>hS.perm (m':=[Av.Piece.var g1 292 (mvA d a f g),.var g2 35 (.agg 1 [.lit (.slice none 0 0)]),.var g3 62 (.agg 12 [int q,str s,str k,.agg 7 [str d,widA a,str f,str g],int h,int t])]++m') List.perm_append_comm) ?_
  repeat' first|refine Zz ?_|intro _
  refine reK m' ⟨rfl,rfl⟩ ?_
  exact sbl
 ·rw [if_pos rfl]
  repeat' first|refine Zz ?_|intro _
  refine al_callV (args:=[mvA d a f g]) (cs:=cs1) m [Av.Piece.var g1 292 (mvA d a f g),.var g2 35 (.agg 1 [.lit (.slice none 0 0)]),.var g3 62 (.agg 12 [int q,str s,str k,.agg 7 [str d,widA a,str f,str g],int h,int t])] (by rw [hs];exact h1) (fun u m' hh=>?_) (List.perm_append_comm (l₁:=[Av.Piece.var g1 292 (mvA d a f g),.var g2 35 (.agg 1 [.lit (.slice none 0 0)]),.var g3 62 (.agg 12 [int q,str s,str k,.agg 7 [str d,widA a,str f,str g],int h,int t])]) (l₂:=m)) (hcs:=hc1)
  obtain⟨rfl,rfl⟩:=hh
  refine al_st (fun ok w hS=>hS.perm (m':=[Av.Piece.var g1 292 (mvA d a f g),.var g2 35 (.agg 1 [.lit (.slice none 0 0)]),.var g3 62 (.agg 12 [int q,str s,str k,.agg 7 [str d,widA a,str f,str g],int h,int t])]++m') List.perm_append_comm) ?_
  repeat' first|refine Zz ?_|intro _
  refine reK m' ⟨rfl,rfl⟩ ?_
  exact sbl
end Go.Proofs.YtmadjfemenlamaaGreatDoor
