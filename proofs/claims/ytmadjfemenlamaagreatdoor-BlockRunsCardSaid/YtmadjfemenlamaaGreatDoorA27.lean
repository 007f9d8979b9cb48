/- the references' hash (02): the sum -/
import Derived.Test.YtmadjfemenlamaaGreatDoorA19
import Derived.Test.YtmadjfemenlamaaGreatDoorA24
import Derived.Test.YtmadjfemenlamaaGreatDoorA25
import Derived.Test.YtmadjfemenlamaaGreatDoorA26
namespace Go.Proofs.YtmadjfemenlamaaGreatDoor
open Go Go.RowKit Tw Av
theorem tUB:Tryz.prog.underlying 168=some (.pointer 170):=by kernel_rfl
theorem tUU:Tryz.prog.underlying 302=some .unsafePointer:=by kernel_rfl
theorem tUS:(Tryz.prog.info? 170).map (·.size)=some 2:=by kernel_rfl
theorem tUL:liesAt Tryz.prog Tryz.prog.depth 170 (2 / Tryz.prog.cellsOf 170) 0 170 1=true:=by kernel_rfl
theorem tUP:Tryz.prog.underlying 239=some (.pointer 5):=by kernel_rfl
theorem tUC:Tryz.prog.cellsOf 5=1:=by kernel_rfl
def Bld (g:Nat)(l:Bs)(m:List Av.Piece):Prop:=∃ p:Option Addr,(p=none∨p=some ⟨g,0,none⟩)∧((l=[]∧m=[.var g 170 (.agg 2 [.lit (.pointer p),nils])]) ∨
 ∃ g' c,l≠[]∧l.length≤c∧m=[.var g 170 (.agg 2 [.lit (.pointer p),.lit (.slice (some ⟨g',0,none⟩) l.length c)]),.buf g' 5 1 (bytA l) c])
theorem ccheck {g:Nat}{p:Option Addr}{v:AV}(hp:p=none∨p=some ⟨g,0,none⟩)(_:v.size=1):Av.Spec Tryz.prog GL 179 [ptr g] [.var g 170 (.agg 2 [.lit (.pointer p),v])] fun u m=>u=.tup []∧m=[.var g 170 (.agg 2 [ptr g,v])]:=by
 obtain⟨j,hj,hjs⟩:=Option.map_eq_some_iff.1 tUS
 refine spec_enter Tryz.func179 rfl Tryz.ntmps179 rfl (fun _ hs=>?_)
 rcases hp with rfl|rfl
 ·repeat' first|refine Vz ?_|intro _
  refine al_toUnsafe (n:=2) tUB tUU hj (by rw [hjs];decide) (by decide) ?_
  apply al_ext (v:=ptr g) (en:=Extern.AbiNoEscape.same) Tryz.func271;kernel_rfl;exact rfl;kernel_rfl;kernel_rfl;exact rfl;exact rfl;exact rfl
  focus
   intro ok w cs _ hv
   obtain⟨u1,us,rfl,h1,rfl⟩:=hv
   exact⟨u1,rfl,RV.of0 h1⟩
  refine al_fromUnsafe (n:=2) tUU tUB hj tUL ?_
  repeat' first|refine Vz ?_|intro _
  exact reN _ ⟨rfl,rfl⟩ (List.Sublist.refl _)
 ·repeat' first|refine Vz ?_|intro _
  refine al_ptrSame tUB hj ?_
  repeat' first|refine Vz ?_|intro _
  exact reN _ ⟨rfl,rfl⟩ (List.Sublist.refl _)
theorem bwrite {g:Nat}{l a:Bs}{m:List Av.Piece}(hb:Bld g l m)(hl:l.length + a.length≤140737488355328):Av.Spec Tryz.prog GL 103 [ptr g,str a] m fun u m=>u=.tup [int a.length,.lit .nilIface]∧Bld g (l++a) m:=by
 obtain⟨p,hp,⟨rfl,rfl⟩|⟨g',c,h0,hc,rfl⟩⟩:=hb
 ·refine spec_enter Tryz.func103 rfl Tryz.ntmps103 rfl (fun _ hs=>?_)
  repeat' first|refine Vz ?_|intro _
  refine al_callK (args:=[ptr g]) [.var g 170 (.agg 2 [.lit (.pointer p),nils])] [] (by rw [hs];exact ccheck hp rfl) (fun u m1 hh=>?_) (List.Perm.refl _)
  obtain⟨rfl,rfl⟩:=hh
  rcases a with _|⟨x,a⟩
  focus
   repeat' first|refine Vz ?_|intro _
   refine al_appendNE ?_
   repeat' first|refine Vz ?_|intro _
   exact reK _ ⟨rfl,_,.inr rfl,.inl ⟨rfl,rfl⟩⟩ (List.Sublist.refl _)
  focus
   have hl2:(x::a).length=a.length + 1:=rfl
   have hl1:([]:Bs).length=0:=rfl
   repeat' first|refine Vz ?_|intro _
   refine al_appendNS (fun g' c' hc'=>?_)
   repeat' first|refine Vz ?_|intro _
   refine ae_st (fun ok w h=>h.perm (List.Perm.swap _ _ _)) ?_
   refine reK _ ⟨rfl,_,.inr rfl,.inr ⟨g',c',by simp,hc',rfl⟩⟩ (List.Sublist.refl _)
 ·refine spec_enter Tryz.func103 rfl Tryz.ntmps103 rfl (fun _ hs=>?_)
  repeat' first|refine Vz ?_|intro _
  refine al_callK (args:=[ptr g]) [.var g 170 (.agg 2 [.lit (.pointer p),.lit (.slice (some ⟨g',0,none⟩) l.length c)])] [.buf g' 5 1 (bytA l) c] (by rw [hs];exact ccheck hp rfl) (fun u m1 hh=>?_) (List.Perm.refl _)
  obtain⟨rfl,rfl⟩:=hh
  have hbl:=bytA_len l
  repeat' first|refine Vz ?_|intro _
  refine al_appendBS (fun g' c' hc'=>?_)
  repeat' first|refine Vz ?_|intro _
  refine reK _ ⟨rfl,_,.inr rfl,.inr ⟨g',c',by simp [h0],by simpa using hc',?_⟩⟩ (List.Sublist.refl _)
  rw [List.length_append,show bytA (l++a)=bytA l++bytA a from List.map_append]
theorem bstring {g:Nat}{l:Bs}{m:List Av.Piece}(hb:Bld g l m)(hl:l.length≤140737488355328):Av.Spec Tryz.prog GL 105 [ptr g] m fun u _=>u=str l:=by
 obtain⟨p,hp,⟨rfl,rfl⟩|⟨g',c,h0,hc,rfl⟩⟩:=hb
 ·refine spec_enter Tryz.func105 rfl Tryz.ntmps105 rfl (fun _ hs=>?_)
  repeat' first|refine Vz ?_|intro _
  apply obl_read [];exact rfl;exact rfl;kernel_rfl;intro _ _
  refine al_sliceDataN ?_
  exact al_nil (ae_got rfl rfl)
  repeat' first|refine Vz ?_|intro _
  apply obl_read [];exact rfl;exact rfl;kernel_rfl;intro _ _
  refine al_unsafeStrN ?_
  exact al_nil (ae_got rfl rfl)
  repeat' first|refine Vz ?_|intro _
  exact reK [] rfl (List.nil_sublist _)
 ·refine spec_enter Tryz.func105 rfl Tryz.ntmps105 rfl (fun _ hs=>?_)
  have hc0:c≠0:=by
   have:=List.length_pos_iff.2 h0
   omega
  repeat' first|refine Vz ?_|intro _
  apply obl_read [];exact rfl;exact rfl;kernel_rfl;intro _ _
  refine al_sliceData (c:=c) ?_ hc0
  exact al_nil (ae_got rfl rfl)
  repeat' first|refine Vz ?_|intro _
  apply obl_write [1];exact rfl;exact rfl;kernel_rfl
  focus
   intro _ _
   refine al_unsafeStr (l:=l) (c:=c) tUP tUC h0 ?_
   exact al_nil (ae_got rfl rfl)
  focus
   exact rfl
  focus
   exact rfl
  repeat' first|refine Vz ?_|intro _
  exact reK [] rfl (List.nil_sublist _)
end Go.Proofs.YtmadjfemenlamaaGreatDoor

namespace Av
open Go Go.RowKit Tw
theorem findP_at:∀ (pre:List AV) (i:Nat) (p:AV) (post:List AV) (j:Nat),j < p.size→findP (pre++p::post) i ((pre.map AV.size).sum + j)=some (i + pre.length,p,j)
 | [],i,p,post,j,h=>by
  have hb:Nat.ble p.size j=false:=by
   cases hh:Nat.ble p.size j with
   | false=>rfl
   | true=>have:=Nat.le_of_ble_eq_true hh;omega
  simp [findP,hb]
 | q::pre,i,p,post,j,h=>by
  have hb:Nat.ble q.size (((q::pre).map AV.size).sum + j)=true:=Nat.ble_eq_true_of_le (by simp;omega)
  rw [List.cons_append,findP,hb,cond_true]
  have e:((q::pre).map AV.size).sum + j - q.size=(pre.map AV.size).sum + j:=by simp;omega
  rw [e,findP_at pre (i + 1) p post j h]
  simp
  omega
theorem sum_u8:∀ l:Bs,((l.map u8A).map AV.size).sum=l.length
 | []=>rfl
 | c::l=>by simp only [List.map_cons,List.sum_cons,List.length_cons,sum_u8 l];show 1 + _=_;omega
theorem set_mid {α:Type}(pre post:List α)(a b:α):(pre++a::post).set pre.length b=pre++b::post:=by simp
theorem putV_arr {n:Nat}{pre post:List AV}{l:Bs}{j o:Nat}{c:UInt8}(hj:j < l.length)(ho:o=(pre.map AV.size).sum + j):putV (u8A c) 8 (.agg n (pre++.agg l.length (l.map u8A)::post)) o=some (.agg n (pre++.agg l.length ((l.set j c).map u8A)::post)):=by
 subst ho
 have h1:findP (pre++.agg l.length (l.map u8A)::post) 0 ((pre.map AV.size).sum + j)=some (0 + pre.length,.agg l.length (l.map u8A),j):=findP_at pre 0 _ post j hj
 have hm:j < (l.map u8A).length:=by simpa using hj
 have h2:findP (l.map u8A) 0 j=some (j,u8A l[j],0):=by
  have h:=findP_at ((l.take j).map u8A) 0 (u8A l[j]) ((l.drop (j + 1)).map u8A) 0 (by show 0 < 1;omega)
  rw [sum_u8] at h
  have e:(l.take j).map u8A++u8A l[j]::(l.drop (j + 1)).map u8A=l.map u8A:=by
   rw [← List.map_cons,← List.map_append,← List.drop_eq_getElem_cons hj,List.take_append_drop]
  rw [e] at h
  simpa [Nat.min_eq_left (Nat.le_of_lt hj)] using h
 have h3:putV (u8A c) 6 (u8A l[j]) 0=some (u8A c):=rfl
 have h4:putV (u8A c) 7 (.agg l.length (l.map u8A)) j=some (.agg l.length ((l.set j c).map u8A)):=by
  unfold putV
  rw [show ((AV.agg l.length (l.map u8A)).isAgg == (u8A c).isAgg)=false from rfl,Bool.and_false,cond_false]
  dsimp only
  rw [h2]
  dsimp only
  rw [h3]
  dsimp only
  rw [List.map_set]
 unfold putV
 rw [show ((AV.agg n (pre++AV.agg l.length (l.map u8A)::post)).isAgg == (u8A c).isAgg)=false from rfl,Bool.and_false,cond_false]
 dsimp only
 rw [h1]
 dsimp only
 rw [h4]
 dsimp only
 rw [Nat.zero_add,set_mid]
theorem putV_arrK {n k:Nat}{pre post:List AV}{l:Bs}{j o:Nat}{c:UInt8}(hk:l.length=k)(hj:j < l.length)(ho:o=(pre.map AV.size).sum + j):putV (u8A c) 8 (.agg n (pre++.agg k (l.map u8A)::post)) o=some (.agg n (pre++.agg k ((l.set j c).map u8A)::post)):=by
 subst hk
 exact putV_arr hj ho
end Av
namespace Go.Proofs.YtmadjfemenlamaaGreatDoor
open Go Go.RowKit Tw Av
def hOf (x:Bs):Hsh:=if h:x.length=32 then ⟨x,h⟩ else zeroH
theorem hOf_l {x:Bs}(h:x.length=32):(hOf x).l=x:=by unfold hOf;rw [dif_pos h]
instance fnFrom {x:Bs}:Ans Tryz.prog GL 45 [str x] True (.tup [hA (hOf x),int (if x.length=32 then 0 else 10)]):=⟨fun _=>by
 refine spec_enter Tryz.func45 rfl Tryz.ntmps45 rfl (fun _ hs=>?_)
 repeat' first|refine Yz ?_|intro _
 by_cases h:x.length=32
 ·rw [if_pos h]
  repeat' first|refine Yz ?_|intro _
  rename_i g2 g4
  refine al_copyS (l:=zeros 32) (a:=x) rfl ?_
  repeat' first|refine Yz ?_|intro _
  refine reE ?_
  have e:copyB (zeros 32) x=x:=by
   unfold copyB
   rw [List.take_of_length_le (by simp [zeros,h]),List.drop_of_length_le (by simp [zeros,h]),List.append_nil]
  rw [e,hA,hOf_l h]
  rfl
 ·rw [if_neg h]
  repeat' first|refine Yz ?_|intro _
  refine reE ?_
  unfold hOf
  rw [dif_neg h]
  rfl⟩
def tlvA (c:Int)(l:List Bs):Bs:=tlvT c (l.flatMap (tlvT c))
theorem tlvT_len (c:Int)(s:Bs):(tlvT c s).length≤16777219:=by simp [tlvT,tlvText,bodyLen,List.length_take];omega
instance {c:Int}{l:List Bs}:LenLe (tlvA c l) 16777219:=⟨tlvT_len _ _⟩
theorem flat_len (c:Int):∀ l:List Bs,(l.flatMap (tlvT c)).length≤l.length * 16777219
 | []=>by simp
 | s::l=>by
  have h1:=tlvT_len c s
  have h2:=flat_len c l
  rw [List.flatMap_cons,List.length_append,List.length_cons,Nat.add_mul]
  omega
instance fnTAll {c:Int}{l:List Bs}{xs:List AV}{id:Option Value}[hx:Strs xs l]:Ans Tryz.prog GL 56 [.lit (.int .u8 c),.sl 1 xs id] ((0≤c∧c < 256)∧l.length≤8000000) (str (tlvA c l)):=⟨fun hp=>by
 obtain⟨hc,hl⟩:=hp
 have h:=hx.out
 subst h
 have hm:(l.map str).length=l.length:=List.length_map _
 refine spec_enter Tryz.func56 rfl Tryz.ntmps56 rfl (fun _ hs=>?_)
 repeat' first|refine Yz ?_|intro _
 rename_i g5
 refine ac_loop (α:=Nat × {m:List Av.Piece // True}) (fun q=>[(0,.lit (.int .u8 c)),(5,ptr g5),(8,.sl 1 (l.map str) id),(9,int l.length),(10,int q.1)]) (fun q=>q.2.1) (fun q=>q.1≤l.length∧Bld g5 ((l.take q.1).flatMap (tlvT c)) q.2.1) (fun q=>l.length - q.1) (0,⟨[.var g5 170 (.agg 2 [.lit (.pointer none),nils])],trivial⟩) ⟨rfl,rfl,rfl,by rw [← hm];rfl,rfl,trivial⟩ (List.Sublist.refl _) ⟨Nat.zero_le _,none,.inl rfl,.inl ⟨rfl,rfl⟩⟩ ?_
 rintro⟨i,m,_⟩ ⟨h1,h2⟩
 dsimp only at h1 h2 ⊢
 repeat' first|refine Yz ?_|intro _
 refine ac_cond (fun hlt=>?_) (fun hlt=>?_)
 ·have hil:i < l.length:=by omega
  have hfl:=flat_len c (l.take i)
  have hfl2:=tlvT_len c l[i]
  have hti:(l.take i).length≤l.length:=by simp;omega
  repeat' first|refine Yz ?_|intro _
  refine al_callK (args:=[ptr g5,str (tlvT c l[i])]) m [] (by rw [hs];exact bwrite h2 (by omega)) (fun u m1 hh=>?_) (by rw [List.append_nil])
  obtain⟨rfl,hb⟩:=hh
  rw [List.append_nil]
  repeat' first|refine Yz ?_|intro _
  refine ae_round (i + 1,⟨m1,trivial⟩) ⟨rfl,rfl,rfl,rfl,rfl,trivial⟩ (List.Sublist.refl _) ⟨hil,?_⟩ (by dsimp only;omega)
  rw [List.take_succ_eq_append_getElem hil,List.flatMap_append]
  simpa using hb
 ·obtain rfl:i=l.length:=by omega
  rw [List.take_length] at h2
  have hfl:=flat_len c l
  repeat' first|refine Yz ?_|intro _
  refine al_callK (args:=[ptr g5]) m [] (by rw [hs];exact bstring h2 (by omega)) (fun u m1 hh=>?_) (by rw [List.append_nil])
  subst hh
  repeat' first|refine Yz ?_|intro _
  refine reE ?_
  rfl⟩
instance fnRAll {c:Int}{l:List Bs}{xs:List AV}{id:Option Value}[hx:Strs xs l]:Ans Tryz.prog GL 120 [.lit (.int .u8 c),.sl 1 xs id] (l.length≤8000000) (str (tlvA c l)):=⟨fun hl=>by
 have h:=hx.out
 subst h
 have hm:(l.map str).length=l.length:=List.length_map _
 refine spec_enter Tryz.func120 rfl Tryz.ntmps120 rfl (fun _ hs=>?_)
 repeat' first|refine Yz ?_|intro _
 refine ac_loop (α:=Nat) (fun i=>[(0,.lit (.int .u8 c)),(1,.sl 1 (l.map str) id),(5,str ((l.take i).flatMap (tlvT c))),(6,int i)]) (fun _=>[]) (fun i=>i≤l.length) (fun i=>l.length - i) 0 ⟨rfl,rfl,rfl,rfl,trivial⟩ (List.Sublist.refl _) (Nat.zero_le _) ?_
 intro i hi
 repeat' first|refine Yz ?_|intro _
 refine ac_cond (fun hlt=>?_) (fun hlt=>?_)
 ·have hil:i < l.length:=by omega
  have hfl:=flat_len c (l.take i)
  have hfl2:=tlvT_len c l[i]
  have hti:(l.take i).length≤l.length:=by simp;omega
  repeat' first|refine Yz ?_|intro _
  refine ae_round (i + 1) ⟨rfl,rfl,?_,rfl,trivial⟩ (List.Sublist.refl _) hil (by omega)
  rw [List.take_succ_eq_append_getElem hil,List.flatMap_append]
  simp
  rfl
 ·obtain rfl:i=l.length:=by omega
  rw [List.take_length]
  repeat' first|refine Yz ?_|intro _
  refine reE ?_
  rfl⟩
def layB (x:Bs)(i:Nat):Bs:=x.take i++zeros (32 - i)
theorem layB_len {x:Bs}{i:Nat}(hx:x.length=32)(hi:i≤32):(layB x i).length=32:=by simp [layB,zeros,hx];omega
theorem layB_next {x:Bs}{i:Nat}(hx:x.length=32)(hi:i < 32):(layB x i).set i (x[i]'(by omega))=layB x (i + 1):=by
 unfold layB
 have h1:(x.take i).length=i:=by simp [hx];omega
 have h2:∀ (a b:List UInt8) (j:Nat) (c:UInt8),a.length=j→(a++b).set j c=a++b.set 0 c:=fun a b j c h=>by
  subst h
  simp
 rw [h2 _ _ _ _ h1,List.take_succ_eq_append_getElem (by omega),List.append_assoc]
 congr 1
 rw [show 32 - i=(32 - (i + 1)) + 1 by omega]
 rfl
theorem layB_all {x:Bs}(hx:x.length=32):layB x 32=x:=by
 unfold layB
 rw [List.take_of_length_le (by omega),Nat.sub_self]
 simp [zeros]
end Go.Proofs.YtmadjfemenlamaaGreatDoor

namespace Go.Proofs.YtmadjfemenlamaaGreatDoor
open Go Go.RowKit Tw Av
theorem tlvT_cons {c:Int}{s:Bs}(h:s.length≤16777215):tlvT c s=UInt8.ofNat c.toNat::UInt8.ofNat (s.length / 65536)::UInt8.ofNat (s.length / 256)::UInt8.ofNat s.length::s:=by
 unfold tlvT tlvText
 rw [List.take_of_length_le (by simp [bodyLen];omega)]
theorem len3_of {n:Nat}(h:n≤16777215):len3 (UInt8.ofNat (n / 65536)) (UInt8.ofNat (n / 256)) (UInt8.ofNat n)=n:=by
 unfold len3
 rw [UInt8.toNat_ofNat',UInt8.toNat_ofNat',UInt8.toNat_ofNat']
 omega
theorem cut_tlvT {c most:Int}{s r:Bs}(h0:0≤c)(h1:c < 256)(h2:(s.length:Int)≤most)(h3:s.length≤16777215):cutT c most false (tlvT c s++r)=some (s,r):=by
 rw [tlvT_cons h3]
 simp only [List.cons_append]
 rw [cutT,len3_of h3,if_pos]
 ·simp
 ·refine⟨rfl,?_,h2,by simp⟩
  rw [UInt8.toNat_ofNat']
  omega
theorem rd_tlvT {c most:Int}{s r:Bs}(h0:0≤c)(h1:c < 256)(h2:(s.length:Int)≤most)(h3:s.length≤16777215):rtT c most (tlvT c s++r) false=s∧rsT c most (tlvT c s++r) false=r∧rbT c most (tlvT c s++r) false=false:=by
 have h:=cut_tlvT (r:=r) h0 h1 h2 h3
 unfold rtT rsT rbT
 rw [h]
 exact⟨rfl,rfl,rfl⟩
theorem digitsF_len:∀ f n,(digitsF f n).length≤f
 | 0,_=>Nat.le_refl _
 | f + 1,n=>by
  rw [digitsF]
  split
  ·simp
  ·have:=digitsF_len f (n / 256)
   simp
   omega
theorem digitsF_num:∀ f n,n < 256 ^ f→numOf (digitsF f n)=n
 | 0,n,h=>by simp at h;subst h;rfl
 | f + 1,n,h=>by
  rw [digitsF]
  split
  ·rename_i h0
   subst h0
   rfl
  ·rw [numOf_snoc,digitsF_num f (n / 256) (by rw [Nat.pow_succ] at h;omega),UInt8.toNat_ofNat']
   omega
theorem rd_tlvI {c most:Int}{n:Int}{r:Bs}(h0:0≤c)(h1:c < 256)(h2:0≤n)(h3:n≤most)(h4:most≤9223372036854775807):riI c most (tlvI c n++r) false=n∧rsT c 8 (tlvI c n++r) false=r∧riB c most (tlvI c n++r) false=false:=by
 have hd:(digits n.toNat).length≤8:=digitsF_len 8 _
 have hn:numOf (digits n.toNat)=n.toNat:=digitsF_num 8 _ (by show n.toNat < 18446744073709551616;omega)
 have hl:lead0 (digits n.toNat)=false:=digits_lead 8 _ (by show n.toNat < 18446744073709551616;omega)
 have h:=rd_tlvT (c:=c) (most:=8) (s:=digits n.toNat) (r:=r) h0 h1 (by omega) (by omega)
 have e:tlvI c n=tlvT c (digits n.toNat):=rfl
 have hN:rnN c (tlvI c n++r) false=n.toNat:=by
  rw [rnN_eq,e,h.1,hl,hn]
  rfl
 have hB:rnB c (tlvI c n++r) false=false:=by
  unfold rnB
  rw [e,h.1,h.2.2,hl]
  rfl
 refine⟨?_,by rw [e];exact h.2.1,?_⟩
 ·rw [riI,hN,if_neg (by omega)]
  omega
 ·rw [riB,hN,hB,decide_eq_false (by omega)]
  rfl
theorem bods_all {c most:Int}(h0:0≤c)(h1:c < 256):∀ (l:List Bs) (f:Nat),l.length < f→(∀ s ∈ l,(s.length:Int)≤most∧s.length≤16777215)→bods c most f (l.flatMap (tlvT c)) false=(l,false)
 | [],f,hf,_=>by
  rcases f with _|f
  ·omega
  ·exact bods_nil
 | s::l,f,hf,hl=>by
  rcases f with _|f
  ·omega
  rw [List.flatMap_cons]
  have h:=rd_tlvT (r:=l.flatMap (tlvT c)) h0 h1 (hl s (by simp)).1 (hl s (by simp)).2
  have ih:=bods_all h0 h1 l f (by simp at hf;omega) (fun t ht=>hl t (by simp [ht]))
  have hne:tlvT c s++l.flatMap (tlvT c)≠[]:=by rw [tlvT_cons (hl s (by simp)).2];simp
  rw [bods,if_neg (by simp [hne]),h.1,h.2.1,h.2.2,ih]
theorem flat_ge {c:Int}:∀ l:List Bs,l.length≤(l.flatMap (tlvT c)).length
 | []=>by simp
 | s::l=>by
  have:=flat_ge (c:=c) l
  have h2:4≤(tlvT c s).length:=by simp [tlvT,tlvText]
  rw [List.flatMap_cons,List.length_append,List.length_cons]
  omega
theorem rd_tlvA {c many most:Int}{l:List Bs}{r:Bs}(h0:0≤c)(h1:c < 256)(h2:(l.length:Int)≤many)(h3:∀ s ∈ l,(s.length:Int)≤most∧s.length≤16777215)(h4:(l.flatMap (tlvT c)).length≤16777215):raL c many most (tlvA c l++r) false=l∧rsT c 16777215 (tlvA c l++r) false=r∧raB c many most (tlvA c l++r) false=false:=by
 have h:=rd_tlvT (c:=c) (most:=16777215) (s:=l.flatMap (tlvT c)) (r:=r) h0 h1 (by omega) h4
 have e:tlvA c l=tlvT c (l.flatMap (tlvT c)):=rfl
 have hX:allX c most (l.flatMap (tlvT c))=(l,false):=bods_all h0 h1 l _ (by have:=flat_ge (c:=c) l;omega) h3
 have hb:badA false (l,false) many=false:=by
  unfold badA
  rw [decide_eq_false (by show ¬ many < (l.length:Int);omega)]
  rfl
 refine⟨?_,by rw [e];exact h.2.1,?_⟩
 ·unfold raL
  rw [e,h.1,h.2.2,hX]
  unfold outA
  rw [hb]
  rfl
 ·unfold raB
  rw [e,h.1,h.2.2,hX,hb]
theorem flat_short {c:Int}{n:Nat}:∀ {l:List Bs},(∀ s ∈ l,s.length≤n)→n≤16777215→(l.flatMap (tlvT c)).length≤l.length * (n + 4)
 | [],_,_=>by simp
 | s::l,h,hn=>by
  have h1:=flat_short (c:=c) (l:=l) (fun t ht=>h t (by simp [ht])) hn
  have h2:=h s (by simp)
  rw [List.flatMap_cons,List.length_append,List.length_cons,Nat.add_mul,tlvT_cons (by omega)]
  simp only [List.length_cons]
  omega
end Go.Proofs.YtmadjfemenlamaaGreatDoor

namespace Go.Proofs.YtmadjfemenlamaaGreatDoor
open Go Go.RowKit Tw Av
def setR (k:Bs)(n:Nat)(d:List Ent):List Ent × Int:=if n=0 then (drpL d k,0) else putR d k (beB n)
def mintQ (d:List Ent)(a c:Bs)(n:Wd):List Ent × Int:=if nameB a=false∨dnmB c=false∨n.n=0 then ([],1)
 else if wIs ((getW d (totK c)).n + n.n)=false∨wIs ((getW d (balK a c)).n + n.n)=false then ([],17)
 else thenR (setR (totK c) ((getW d (totK c)).n + n.n)) (setR (balK a c) ((getW d (balK a c)).n + n.n)) d
def burnQ (d:List Ent)(a c:Bs)(n:Wd):List Ent × Int:=if nameB a=false∨dnmB c=false∨n.n=0 then ([],1)
 else if (getW d (totK c)).n < n.n∨(getW d (balK a c)).n < n.n then ([],16)
 else thenR (setR (totK c) ((getW d (totK c)).n - n.n)) (setR (balK a c) ((getW d (balK a c)).n - n.n)) d
def moveQ (d:List Ent)(a b c:Bs)(n:Wd):List Ent × Int:=if nameB a=false∨nameB b=false∨dnmB c=false∨n.n=0 then ([],1)
 else if (getW d (balK a c)).n < n.n then ([],16)
 else if a=b then (d,0)
 else if wIs ((getW d (balK b c)).n + n.n)=false then ([],17)
 else thenR (setR (balK a c) ((getW d (balK a c)).n - n.n)) (setR (balK b c) ((getW d (balK b c)).n + n.n)) d
theorem tlvT_len' {c:Int}{s:Bs}(h:s.length≤16777215):(tlvT c s).length=s.length + 4:=by
 rw [tlvT_cons h]
 simp
theorem tlvT_inj {c:Int}{a b r t:Bs}(h0:0≤c)(h1:c < 256)(ha:a.length≤1000)(hb:b.length≤1000)(h:tlvT c a++r=tlvT c b++t):a=b∧r=t:=by
 have e1:=cut_tlvT (c:=c) (most:=1000) (s:=a) (r:=r) h0 h1 (by omega) (by omega)
 have e2:=cut_tlvT (c:=c) (most:=1000) (s:=b) (r:=t) h0 h1 (by omega) (by omega)
 rw [h,e2] at e1
 injection e1 with e1
 injection e1 with e1 e3
 exact⟨e1.symm,e3.symm⟩
theorem nameB_len {s:Bs}(h:nameB s=true):1≤s.length∧s.length≤64:=of_decide_eq_true h
theorem dnmB_len {s:Bs}(h:dnmB s=true):1≤s.length∧s.length≤200:=of_decide_eq_true h
theorem balK_ne {a b c:Bs}(ha:nameB a=true)(hb:nameB b=true)(h:a≠b):balK a c≠balK b c:=fun e=>by
 have:=nameB_len ha
 have:=nameB_len hb
 unfold balK at e
 rw [List.append_assoc,List.append_assoc] at e
 exact h (tlvT_inj (by decide) (by decide) (by omega) (by omega) (List.append_cancel_left e)).1
theorem balK_tot {a c t:Bs}:balK a c≠totK t:=fun e=>by
 unfold balK totK at e
 rw [List.append_assoc] at e
 injection e with e
 cases e
theorem balK_len {a c:Bs}(ha:nameB a=true)(hc:dnmB c=true):(balK a c).length≤400:=by
 have:=nameB_len ha
 have:=dnmB_len hc
 unfold balK
 rw [List.length_append,List.length_append,tlvT_len' (by omega),tlvT_len' (by omega)]
 simp
 omega
theorem totK_len {c:Bs}(hc:dnmB c=true):(totK c).length≤400:=by
 have:=dnmB_len hc
 unfold totK
 rw [List.length_append,tlvT_len' (by omega)]
 simp
 omega
theorem getW_put {d:List Ent}{k v q:Bs}(h:Srt d)(hq:q≠k):getW (putL d k v) q=getW d q:=by
 unfold getW
 rw [valE_put h,if_neg hq]
theorem getW_drp {d:List Ent}{k q:Bs}(h:Srt d)(hq:q≠k):getW (drpL d k) q=getW d q:=by
 unfold getW
 rw [valE_drp h,if_neg hq]
theorem putR_ne {d:List Ent}{k v q:Bs}(h:Srt d)(hq:q≠k)(he:(putR d k v).2=0):getW (putR d k v).1 q=getW d q:=by
 unfold putR at he ⊢
 split
 ·exact getW_put h hq
 ·rename_i h1
  rw [if_neg h1] at he
  exact absurd he h1
theorem setR_ne {d:List Ent}{k q:Bs}{n:Nat}(h:Srt d)(hq:q≠k)(he:(setR k n d).2=0):getW (setR k n d).1 q=getW d q:=by
 unfold setR at he ⊢
 split
 ·exact getW_drp h hq
 ·rename_i h1
  rw [if_neg h1] at he
  exact putR_ne h hq he
theorem getW_pos {d:List Ent}{k:Bs}(h:Srt d)(hp:0 < (getW d k).n):bsIs d k=true:=by
 rw [is_bs h]
 unfold getW valE at hp
 cases e:gO d k with
 | none=>
  rw [e] at hp
  exact absurd hp (by decide)
 | some v=>rfl
theorem less_ok {d:List Ent}{k:Bs}{n:Wd}(h:DOk d)(hk:k.length≤400)(hn:n.n≠0)(hle:n.n≤(getW d k).n):lessR k n d=setR k ((getW d k).n - n.n) d∧(lessR k n d).2=0:=by
 have hb:bsIs d k=true:=getW_pos h.s (by omega)
 have he:∀ v:Bs,v.length≤4000→putE d k v=0:=fun v hv=>putE_eq0.2 ⟨hk,hv,.inl hb⟩
 unfold lessR setR
 rw [if_neg (by omega)]
 by_cases h1:(getW d k).n=n.n
 ·rw [if_pos h1,if_pos (by omega)]
  exact⟨rfl,rfl⟩
 ·rw [if_neg h1,if_neg (by omega)]
  refine⟨rfl,?_⟩
  rw [putR_e]
  exact he _ (by rw [beB_len];omega)
theorem more_set {d:List Ent}{k:Bs}{n:Wd}(hn:n.n≠0):moreR k n d=if wIs ((getW d k).n + n.n)=true then setR k ((getW d k).n + n.n) d else ([],17):=by
 unfold moreR setR
 split
 ·rw [if_neg (by omega)]
 ·rfl
theorem moreR_16 {d:List Ent}{k:Bs}{n:Wd}:(moreR k n d).2≠16:=by
 unfold moreR
 split
 ·rw [putR_e]
  unfold putE
  split
  ·decide
  ·split
   ·decide
   ·split <;> decide
 ·decide
theorem mint_eq {d:List Ent}(h:DOk d)(a c:Bs)(n:Wd):mintR d a c n=mintQ d a c n:=by
 unfold mintR mintQ
 split
 ·rfl
 ·rename_i h1
  simp only [not_or,Bool.not_eq_false] at h1
  obtain⟨h2,h3,h4⟩:=h1
  by_cases h5:wIs ((getW d (balK a c)).n + n.n)=false
  ·rw [if_pos h5,if_pos (.inr h5)]
  ·rw [if_neg h5]
   have h5':wIs ((getW d (balK a c)).n + n.n)=true:=by simpa using h5
   unfold thenR
   by_cases h6:wIs ((getW d (totK c)).n + n.n)=false
   ·have m1:moreR (totK c) n d=([],17):=by rw [more_set h4,if_neg (by simp [h6])]
    have n0:¬ (([],17):List Ent × Int).2=0:=by decide
    rw [m1,if_neg n0,if_pos (.inl h6)]
   ·have h6':wIs ((getW d (totK c)).n + n.n)=true:=by simpa using h6
    have m1:moreR (totK c) n d=setR (totK c) ((getW d (totK c)).n + n.n) d:=by rw [more_set h4,if_pos h6']
    have hc:¬ (wIs ((getW d (totK c)).n + n.n)=false∨wIs ((getW d (balK a c)).n + n.n)=false):=by rw [h5',h6'];decide
    rw [m1,if_neg hc]
    by_cases h7:(setR (totK c) ((getW d (totK c)).n + n.n) d).2=0
    ·rw [if_pos h7,if_pos h7,more_set h4,setR_ne h.s balK_tot h7,if_pos h5']
    ·rw [if_neg h7,if_neg h7]
theorem burn_eq {d:List Ent}(h:DOk d)(a c:Bs)(n:Wd):burnR d a c n=burnQ d a c n:=by
 unfold burnR burnQ
 split
 ·rfl
 ·rename_i h1
  simp only [not_or,Bool.not_eq_false] at h1
  obtain⟨h2,h3,h4⟩:=h1
  unfold thenR
  by_cases h5:(getW d (totK c)).n < n.n
  ·have n0:¬ (([],16):List Ent × Int).2=0:=by decide
   have:lessR (totK c) n d=([],16):=by rw [lessR,if_pos h5]
   rw [this,if_neg n0,if_pos (.inl h5)]
  ·obtain⟨e1,e2⟩:=less_ok h (totK_len h3) h4 (by omega:n.n≤(getW d (totK c)).n)
   have e3:=e2
   rw [e1] at e3
   rw [if_pos e2,e1]
   have hd:DOk (setR (totK c) ((getW d (totK c)).n - n.n) d).1:=by
    unfold setR at e3 ⊢
    split
    ·exact h.drp _
    ·rename_i h8
     rw [if_neg h8] at e3
     exact putR_ok h e3
   by_cases h6:(getW d (balK a c)).n < n.n
   ·rw [if_pos (show (getW d (totK c)).n < n.n∨(getW d (balK a c)).n < n.n from .inr h6),lessR,setR_ne h.s balK_tot e3,if_pos h6]
   ·rw [if_neg (show ¬ ((getW d (totK c)).n < n.n∨(getW d (balK a c)).n < n.n) by omega),if_pos e3,(less_ok hd (balK_len h2 h3) h4 (by rw [setR_ne h.s balK_tot e3];omega)).1,setR_ne h.s balK_tot e3]
theorem move_eq {d:List Ent}(h:DOk d)(a b c:Bs)(n:Wd):moveR d a b c n=moveQ d a b c n:=by
 unfold moveR moveQ
 split
 ·rfl
 ·rename_i h1
  simp only [not_or,Bool.not_eq_false] at h1
  obtain⟨h2,h2',h3,h4⟩:=h1
  by_cases h5:(getW d (balK a c)).n < n.n
  ·have e1:thenR (lessR (balK a c) n) (moreR (balK b c) n) d=([],16):=by
    unfold thenR
    have:lessR (balK a c) n d=([],16):=by rw [lessR,if_pos h5]
    rw [this,if_neg (show ¬ (([],16):List Ent × Int).2=0 by decide)]
   rw [e1,if_neg (show ¬ (a=b∧(([],16):List Ent × Int).2≠16) from fun hh=>hh.2 rfl),if_pos h5]
  ·obtain⟨e1,e2⟩:=less_ok h (balK_len h2 h3) h4 (by omega:n.n≤(getW d (balK a c)).n)
   have e3:=e2
   rw [e1] at e3
   have e4:thenR (lessR (balK a c) n) (moreR (balK b c) n) d=moreR (balK b c) n (setR (balK a c) ((getW d (balK a c)).n - n.n) d).1:=by
    unfold thenR
    rw [if_pos e2,e1]
   rw [if_neg h5,e4]
   by_cases h6:a=b
   ·rw [if_pos ⟨h6,moreR_16⟩,if_pos h6]
   ·rw [if_neg (fun hh=>h6 hh.1),if_neg h6,more_set h4,setR_ne h.s (balK_ne h2' h2 (fun e=>h6 e.symm)) e3]
    unfold thenR
    rw [if_pos e3]
    by_cases h7:wIs ((getW d (balK b c)).n + n.n)=true
    ·rw [if_pos h7,if_neg (by simp [h7])]
    ·rw [if_neg h7,if_pos (by simpa using h7)]
theorem putR_dok {d:List Ent}{k v:Bs}(h:DOk d):DOk (putR d k v).1:=by
 unfold putR
 split
 ·rename_i h1;exact h.put h1
 ·exact .nil
theorem moreR_dok {d:List Ent}{k:Bs}{n:Wd}(h:DOk d):DOk (moreR k n d).1:=by
 unfold moreR
 split
 ·exact putR_dok h
 ·exact .nil
theorem lessR_dok {d:List Ent}{k:Bs}{n:Wd}(h:DOk d):DOk (lessR k n d).1:=by
 unfold lessR
 split
 ·exact .nil
 ·split
  ·exact h.drp _
  ·exact putR_dok h
theorem thenR_dok {d:List Ent}{a b:List Ent→List Ent × Int}(h:DOk d)(ha:∀ d,DOk d→DOk (a d).1)(hb:∀ d,DOk d→DOk (b d).1):DOk (thenR a b d).1:=by
 unfold thenR
 split
 ·exact hb _ (ha _ h)
 ·exact ha _ h
theorem mintR_dok {d:List Ent}{a c:Bs}{n:Wd}(h:DOk d):DOk (mintR d a c n).1:=by
 unfold mintR
 split
 ·exact .nil
 ·split
  ·exact .nil
  ·exact thenR_dok h (fun _ h=>moreR_dok h) (fun _ h=>moreR_dok h)
theorem burnR_dok {d:List Ent}{a c:Bs}{n:Wd}(h:DOk d):DOk (burnR d a c n).1:=by
 unfold burnR
 split
 ·exact .nil
 ·exact thenR_dok h (fun _ h=>lessR_dok h) (fun _ h=>lessR_dok h)
theorem moveR_dok {d:List Ent}{a b c:Bs}{n:Wd}(h:DOk d):DOk (moveR d a b c n).1:=by
 unfold moveR
 split
 ·exact .nil
 ·split
  ·exact h
  ·exact thenR_dok h (fun _ h=>lessR_dok h) (fun _ h=>moreR_dok h)
theorem sendR_dok {d:List Ent}{x:Pkt}(h:DOk d):DOk (sendR d x).1:=by
 unfold sendR
 split
 ·exact .nil
 ·split
  ·exact burnR_dok h
  ·exact moveR_dok h
theorem recvR_dok {d:List Ent}{x:Pkt}(h:DOk d):DOk (recvR d x).1:=by
 unfold recvR
 split
 ·exact .nil
 ·split
  ·exact moveR_dok h
  ·exact mintR_dok h
theorem backR_dok {d:List Ent}{x:Pkt}(h:DOk d):DOk (backR d x).1:=by
 unfold backR
 split
 ·exact .nil
 ·split
  ·exact mintR_dok h
  ·exact moveR_dok h
end Go.Proofs.YtmadjfemenlamaaGreatDoor

namespace Go.Proofs.YtmadjfemenlamaaGreatDoor
open Go Go.RowKit Tw Av
def fill {α:Type}(f:α→Value)(z:Value)(l:List α)(i:Nat):List AV:=(l.take i).map (fun x=>.lit (f x))++List.replicate (l.length - i) (.lit z)
instance {α:Type}{f:α→Value}{z:Value}{l:List α}{i:Nat}:Siz (fill f z l i) 1:=by unfold fill;infer_instance
theorem fill_len {α:Type}{f:α→Value}{z:Value}{l:List α}{i:Nat}(h:i≤l.length):(fill f z l i).length=l.length:=by simp [fill];omega
theorem fill_set {α:Type}{f:α→Value}{z:Value}{l:List α}{i:Nat}(h:i < l.length):(fill f z l i).set i (.lit (f l[i]))=fill f z l (i + 1):=by
 have hl:((l.take i).map fun x=>AV.lit (f x)).length=i:=by simp;omega
 unfold fill
 rw [List.set_append,if_neg (by omega),hl,Nat.sub_self,show l.length - i=(l.length - (i + 1)) + 1 by omega,List.replicate_succ,List.set_cons_zero,List.take_succ_eq_append_getElem h,List.map_append,List.append_assoc]
 rfl
theorem fill_all {α:Type}{f:α→Value}{z:Value}{l:List α}:fill f z l l.length=l.map fun x=>.lit (f x):=by simp [fill]
class U8s (xs:List AV)(l:outParam Bs):Prop where
 out:xs=l.map u8A
instance {l:Bs}:U8s (l.map u8A) l:=⟨rfl⟩
instance {xs:List AV}{l:Bs}{i:Nat}[h:U8s xs l]:U8s (xs.take i) (l.take i):=⟨by rw [h.out,List.map_take]⟩
instance {xs:List AV}{l:Bs}{i:Nat}[h:U8s xs l]:U8s (xs.drop i) (l.drop i):=⟨by rw [h.out,List.map_drop]⟩
instance fnRBlock' {x:H8}{xs:List AV}{blk:Bs}{id:Option Value}[h:U8s xs blk]:Ans Tryz.prog GL 221 [tabA,hwA x,.sl 1 xs id] (blk.length=64) (hwA (compress x blk)):=by
 rw [h.out]
 infer_instance
def padZ (n:Nat):Nat:=(119 - n % 64) % 64
theorem pad_len (s:Bs):(pad s).length=s.length + 1 + padZ s.length + 8:=by
 have:(be64 (8 * s.length)).length=8:=rfl
 simp [pad,zeros,this,padZ]
 omega
theorem u8w (q:Nat):Value.int .u8 (IntKind.u8.wrap (q:Int))=u8v (UInt8.ofNat q):=by
 unfold u8v
 rw [IntKind.wrap_u8]
 congr 1
attribute [local irreducible] Av.Obl
set_option maxHeartbeats 4000000 in
instance fnRSum {s:Bs}:Ans Tryz.prog GL 136 [tabA,str s] (s.length≤35184372088832) (hA (shaH s)):=⟨fun hl=>by
 refine spec_enter Tryz.func136 rfl Tryz.ntmps136 rfl (fun _ hs=>?_)
 repeat' (first|refine ct1 ?_|refine al_move ?_|refine al_box (fun _=>?_)|refine al_alloc (fun _=>?_)|intro _|fail)
 rename_i g2 g4
 refine al_bytesT (fun v=>?_)
 repeat' first|refine Wz ?_|intro _
 refine al_append (fun v'=>?_)
 repeat' first|refine Wz ?_|intro _
 have hZ:padZ s.length < 64:=by unfold padZ;omega
 have hs0:s.map (fun c=>AV.lit (u8v c))++[.lit (.int .u8 128)]=(s++128::zeros 0).map u8A:=by
  rw [List.map_append]
  rfl
 refine ac_as 5 (v':=.sl 1 ((s++128::zeros 0).map u8A) (some v')) (Imp.of_eq (by rw [← hs0])) ?_
 refine ac_loop (α:=Nat × Value) (fun q=>[(1,str s),(2,ptr g2),(4,ptr g4),(5,.sl 1 ((s++128::zeros q.1).map u8A) (some q.2))]) (fun q=>[.tail 5 1 q.2,.var g4 49 (hA zeroH),.var g2 197 tabA])
  (fun q=>q.1≤padZ s.length) (fun q=>padZ s.length - q.1) (0,v') ⟨rfl,rfl,rfl,rfl,trivial⟩ (List.Sublist.refl _) (Nat.zero_le _) ?_
 rintro⟨z,v''⟩ hz
 dsimp only at hz ⊢
 have hlz:((s++128::zeros z).map u8A).length=s.length + 1 + z:=by simp [zeros];omega
 repeat' first|refine Wz ?_|intro _
 refine ac_cond (fun hne=>?_) (fun hne=>?_)
 ·repeat' first|refine Wz ?_|intro _
  rw [hlz] at hne
  refine al_append (hb:=by rw [hlz];simp;omega) (hl:=by rw [hlz];simp [maxLen];omega) (fun v3=>?_)
  repeat' first|refine Wz ?_|intro _
  have e:(s++128::zeros z).map u8A++[.lit (.int .u8 0)]=(s++128::zeros (z + 1)).map u8A:=by
   simp [zeros,List.replicate_succ',u8v]
  rw [e]
  exact ae_round (z + 1,v3) ⟨rfl,rfl,rfl,rfl,trivial⟩ (List.Sublist.refl _) (by simp only;unfold padZ at *;omega) (by simp only;unfold padZ at *;omega)
 ·rw [hlz] at hne
  obtain rfl:z=padZ s.length:=by unfold padZ at *;omega
  repeat' first|refine Wz ?_|intro _
  refine al_arith ?_
  have hw:IntKind.u64.wrap ((s.length:Int) * 8)=((8 * s.length:Nat):Int):=by rw [IntKind.wrap_u64];omega
  rw [hw]
  repeat' first|refine Wz ?_|intro _
  generalize hB:s++128::zeros (padZ s.length)=B at *
  have hlB:B.length=s.length + 1 + padZ s.length:=by simpa using hlz
  refine ac_loop (α:=Nat × Value) (fun q=>[(2,ptr g2),(4,ptr g4),(5,.sl 1 ((B++(be64 (8 * s.length)).take q.1).map u8A) (some q.2)),(6,.lit (.int .u64 ((8 * s.length:Nat):Int))),(7,int (7 - (q.1:Int)))]) (fun q=>[.tail 5 1 q.2,.var g4 49 (hA zeroH),.var g2 197 tabA])
   (fun q=>q.1≤8) (fun q=>8 - q.1) (0,v'') ⟨rfl,rfl,by simp;rfl,rfl,rfl,trivial⟩ (List.Sublist.refl _) (Nat.zero_le _) ?_
  rintro⟨i,v4⟩ hi
  dsimp only at hi ⊢
  have hl8:(be64 (8 * s.length)).length=8:=rfl
  have hlq:((B++(be64 (8 * s.length)).take i).map u8A).length=B.length + i:=by simp [hl8];omega
  repeat' first|refine Wz ?_|intro _
  refine ac_cond (fun hge=>?_) (fun hge=>?_)
  ·repeat' first|refine Wz ?_|intro _
   refine al_shrC (k:=.u64) (n:=8 * (7 - i)) (hb:=by show _=((8 * (7 - i):Nat):Int);omega) (hn:=Nat.ble_eq_true_of_le (show 8 * (7 - i)≤64 by omega)) ?_
   repeat' first|refine Wz ?_|intro _
   rw [← Int.natCast_ediv,u8w]
   refine al_append (hb:=by rw [hlq];simp;omega) (hl:=by rw [hlq];simp [maxLen];omega) (fun v5=>?_)
   repeat' first|refine Wz ?_|intro _
   have hg:=be64_get (8 * s.length) (7 - i) (by omega)
   rw [show 7 - (7 - i)=i by omega] at hg
   have hi8:i < (be64 (8 * s.length)).length:=by omega
   have e:(B++(be64 (8 * s.length)).take i).map u8A++[.lit (u8v (UInt8.ofNat (8 * s.length / 2 ^ (8 * (7 - i)))))]=(B++(be64 (8 * s.length)).take (i + 1)).map u8A:=by
    rw [List.getElem?_eq_getElem hi8] at hg
    injection hg with hg
    rw [← hg,List.take_succ_eq_append_getElem hi8,← List.append_assoc,List.map_append (l₁:=B++List.take i _)]
    rfl
   rw [e]
   have e7:(7:Int) - (i:Int) - 1=7 - ((i + 1:Nat):Int):=by omega
   rw [e7]
   exact ae_round (i + 1,v5) ⟨rfl,rfl,rfl,rfl,rfl,trivial⟩ (List.Sublist.refl _) (by simp only;omega) (by simp only;omega)
  ·obtain rfl:i=8:=by omega
   rw [List.take_of_length_le (by omega)] at hlq ⊢
   have hP:B++be64 (8 * s.length)=pad s:=by rw [← hB,pad,List.append_assoc];rfl
   rw [hP] at hlq ⊢
   have hlP:(pad s).length=s.length + 1 + padZ s.length + 8:=pad_len s
   have hm64:(pad s).length % 64=0:=by rw [hlP];unfold padZ;omega
   generalize hPP:pad s=P at *
   repeat' first|refine Wz ?_|intro _
   rename_i g8
   refine ac_loop (α:=Nat) (fun i=>[(2,ptr g2),(4,ptr g4),(5,.sl 1 (P.map u8A) (some v4)),(8,ptr g8),(9,int i)]) (fun i=>[.var g8 261 (.agg 8 (fill w32v (w32v 0) h0.words i)),.tail 5 1 v4,.var g4 49 (hA zeroH),.var g2 197 tabA])
    (fun i=>i≤8) (fun i=>8 - i) 0 ⟨rfl,rfl,rfl,rfl,rfl,trivial⟩ (List.Sublist.refl _) (Nat.zero_le _) ?_
   intro i hi
   have hw8:h0.words.length=8:=rfl
   repeat' first|refine Wz ?_|intro _
   refine ac_cond (fun hlt=>?_) (fun hlt=>?_)
   ·have hi8:i < h0.words.length:=by omega
    repeat' first|refine Wz ?_|intro _
    refine al_idxM (l:=h0.words) (f:=fun x=>.lit (w32v x)) i hi8 ?_
    repeat' first|refine Wz ?_|intro _
    refine al_idxA i ?_
    repeat' first|refine Wz ?_|intro _
    refine al_storeE (j:=i) (ps:=fill w32v (w32v 0) h0.words i) (by rw [fill_len (by omega)];omega) ?_
    rw [fill_set hi8]
    repeat' first|refine Wz ?_|intro _
    exact ae_round (i + 1) ⟨rfl,rfl,rfl,rfl,rfl,trivial⟩ (List.Sublist.refl _) (by omega) (by omega)
   ·obtain rfl:i=h0.words.length:=by omega
    rw [fill_all]
    repeat' first|refine Wz ?_|intro _
    refine ac_loop (α:=Nat) (fun q=>[(2,ptr g2),(4,ptr g4),(5,.sl 1 (P.map u8A) (some v4)),(8,ptr g8),(10,int (64 * (q:Int)))]) (fun q=>[.var g8 261 (hwA (absorb h0 q P)),.tail 5 1 v4,.var g4 49 (hA zeroH),.var g2 197 tabA])
     (fun q=>64 * q≤P.length) (fun q=>P.length - 64 * q) 0 ⟨rfl,rfl,rfl,rfl,rfl,trivial⟩ (List.Sublist.refl _) (Nat.zero_le _) ?_
    intro q hq
    have hlPm:(P.map u8A).length=P.length:=List.length_map _
    repeat' first|refine Wz ?_|intro _
    refine ac_cond (fun hlt=>?_) (fun hlt=>?_)
    ·rw [hlPm] at hlt
     repeat' first|refine Wz ?_|intro _
     apply obl_read [];exact rfl;exact rfl;kernel_rfl;intro _ _
     refine al_sliceD (64 * q) (64 * q + 64) ?_
     exact al_nil (ae_got rfl rfl)
     repeat' first|refine Wz ?_|intro _
     have e:compress (absorb h0 q P) ((P.take (64 * q + 64)).drop (64 * q))=absorb h0 (q + 1) P:=by
      rw [absorb_succ,List.drop_take]
      congr 2
      omega
     rw [e]
     have e2:(64:Int) * (q:Int) + 64=64 * ((q + 1:Nat):Int):=by omega
     rw [e2]
     exact ae_round (q + 1) ⟨rfl,rfl,rfl,rfl,rfl,trivial⟩ (List.Sublist.refl _) (by omega) (by omega)
    ·rw [hlPm] at hlt
     obtain rfl:q=P.length / 64:=by omega
     have hsha:shaH s=⟨(absorb h0 (P.length / 64) P).bytes,rfl⟩:=Hsh.ext' (by rw [← hPP];rfl)
     rw [hsha]
     generalize absorb h0 (P.length / 64) P=X at *
     repeat' first|refine Wz ?_|intro _
     rename_i g11
     refine ac_loop (α:=Nat) (fun i=>[(4,ptr g4),(8,ptr g8),(11,ptr g11),(12,int i)]) (fun i=>[.var g11 49 (.agg 32 (fill u8v (u8v 0) X.bytes i)),.var g8 261 (hwA X),.var g4 49 (hA zeroH)])
      (fun i=>i≤32) (fun i=>32 - i) 0 ⟨rfl,rfl,rfl,rfl,trivial⟩ (by repeat (first|exact List.nil_sublist _|exact List.Sublist.refl _|apply List.Sublist.cons_cons|apply List.Sublist.cons)) (Nat.zero_le _) ?_
     intro i hi
     have hb32:X.bytes.length=32:=rfl
     repeat' first|refine Wz ?_|intro _
     refine ac_cond (fun hlt=>?_) (fun hlt=>?_)
     ·have hi32:i < X.bytes.length:=by omega
      repeat' first|refine Wz ?_|intro _
      refine al_idxA (i / 4) ?_
      repeat' first|refine Wz ?_|intro _
      refine al_loadE (j:=i / 4) (ps:=X.words.map fun x=>.lit (w32v x)) (u:=w32A (X.words.getD (i / 4) 0)) (by rw [List.getElem?_map,words_get X (i / 4) (by omega)];rfl) ?_
      repeat' first|refine Wz ?_|intro _
      refine al_shr32 (24 - 8 * (i % 4)) ?_
      repeat' first|refine Wz ?_|intro _
      have hg:=bytes_get X i (by omega)
      rw [List.getElem?_eq_getElem hi32] at hg
      injection hg with hg
      rw [BitVec.toNat_ushiftRight,Nat.shiftRight_eq_div_pow,u8w,← hg]
      refine al_idxA i ?_
      refine al_storeE (j:=i) (ps:=fill u8v (u8v 0) X.bytes i) (by rw [fill_len (by omega)];omega) ?_
      rw [fill_set hi32]
      repeat' first|refine Wz ?_|intro _
      exact ae_round (i + 1) ⟨rfl,rfl,rfl,rfl,trivial⟩ (List.Sublist.refl _) (by omega) (by omega)
     ·obtain rfl:i=X.bytes.length:=by omega
      rw [fill_all]
      repeat' first|refine Wz ?_|intro _
      refine reE ?_
      rfl⟩
end Go.Proofs.YtmadjfemenlamaaGreatDoor
