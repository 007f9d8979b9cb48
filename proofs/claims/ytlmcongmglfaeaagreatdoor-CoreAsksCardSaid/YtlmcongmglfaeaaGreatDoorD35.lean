/- names, walked: where a slash is; how many there are; what stands behind a name -/
import Derived.Lib.Bytealg
import Derived.Test.YtlmcongmglfaeaaGreatDoorD28
import Derived.Test.YtlmcongmglfaeaaGreatDoorD30
import Derived.Test.YtlmcongmglfaeaaGreatDoorD33
import Derived.Test.YtlmcongmglfaeaaGreatDoorD34
namespace Go.Proofs.YtlmcongmglfaeaaGreatDoor
open Go Go.RowKit Tw Av
abbrev dI (l:Bs):List AV:=l.map fun c=>int (c.toNat:Int)
class DIs (xs:List AV)(l:outParam Bs):Prop where
 out:xs=dI l
instance {l:Bs}:DIs (dI l) l:=⟨rfl⟩
theorem dI_len (l:Bs):(dI l).length=l.length:=llm _
theorem dgs_snoc {n k:Nat}:dI (dgs n (k + 1))=dI (dgs n k)++[int ((dg n k:Nat):Int)]:=by
 rw [dgs_succ]
 unfold dI
 rw [List.map_append,List.map_singleton,ofNat_dg]
set_option maxHeartbeats 1000000 in
instance fnDigits {a:Wd}:Ans Tryz.prog GL 76 [widA a] True (.sl 1 (dI (dgs a.n 32)) none):=⟨fun _=>by
 refine qE Tryz.func76 rfl Tryz.ntmps76 rfl (fun _ hs=>?_)
 repeat' first|refine Vz ?_|intro _
 rename_i g1
 refine ac_as 3 (Imp.nil (k:=1)) ?_
 refine ac_st (fun ok w h=>h.full 3 1 none 0) ?_
 refine ac_loop (α:=Nat × Value) (fun q=>[(1,ptr g1),(3,.sl 1 (dI (dgs a.n q.1)) (some q.2)),(4,int q.1)]) (fun q=>[.tail 3 1 q.2,.var g1 43 (widA a)]) (fun q=>q.1<=32) (fun q=>32 - q.1) (0,.slice none 0 0) ⟨rfl,rfl,rfl,trivial⟩ slr (Nat.zero_le _) ?_
 rintro⟨i,v⟩ hi
 dsimp only at hi ⊢
 have hm:(dI (dgs a.n i)).length=i:=by rw [dI_len,dgs_len]
 have hm2:=dgs_len a.n i
 repeat' first|refine Vz ?_|intro _
 refine ac_cond (fun hlt=>?_) (fun hlt=>?_)
 ·have hi32:i < 32:=by omega
  have hq:((i:Int) / 8)=((i / 8:Nat):Int):=by omega
  have hr:((i:Int) % 8)=((i % 8:Nat):Int):=by omega
  have hlm:=lm_lt a.n (i / 8)
  have hdv:lm a.n (i / 8) / 256 ^ (i % 8) < 18446744073709551616:=Nat.lt_of_le_of_lt (Nat.div_le_self _ _) hlm
  have e1:=lm_dg a.n i
  have e2:=dg_lt a.n i
  repeat' first|refine Vz ?_|intro _
  refine al_idxA (i / 8) ?_
  repeat' first|refine Vz ?_|intro _
  refine al_loadE (j:=i / 8) (wid_get (by omega)) ?_
  repeat' first|refine Vz ?_|intro _
  rw [hr]
  repeat' first|refine Yz ?_|intro _
  refine al_shrB (i % 8) ?_
  refine al_and255 hdv ?_
  rw [e1]
  repeat' first|refine Vz ?_|intro _
  refine al_append (fun v'=>?_)
  repeat' first|refine Vz ?_|intro _
  rw [<- dgs_snoc]
  refine ae_round (i + 1,v') ⟨rfl,rfl,rfl,trivial⟩ ?_ hi32 (by dsimp only;omega)
  exact sbl
 ·obtain rfl:i=32:=by omega
  repeat' first|refine Vz ?_|intro _
  refine reI ?_
  exact Imp.sl⟩
theorem dgs_get {n k i:Nat}(h:i < (dgs n k).length):(dgs n k)[i].toNat=dg n i:=by
 have h1:i < k:=by rw [dgs_len] at h;exact h
 have h2:=dgs_at (n:=n) h1
 rw [List.getElem?_eq_getElem h] at h2
 injection h2 with h2
 rw [h2,ofNat_dg]
set_option maxHeartbeats 2000000 in
instance fnRCompare {a b:Wd}:Ans Tryz.prog GL 32 [widA a,widA b] True (int (cmpW a b)):=⟨fun _=>by
 have hla:=dgs_len a.n 32
 have hlb:=dgs_len b.n 32
 refine qE Tryz.func32 rfl Tryz.ntmps32 rfl (fun _ hs=>?_)
 repeat' first|refine Vz ?_|intro _
 rename_i g2 g3
 refine ac_loop (α:=Nat) (fun n=>[(5,.sl 1 (dI (dgs a.n 32)) none),(6,.sl 1 (dI (dgs b.n 32)) none),(7,int ((n:Int) - 1))]) (fun n=>[]) (fun n=>n<=32/\a.n / 256 ^ n=b.n / 256 ^ n) (fun n=>n) 32 ⟨rfl,rfl,rfl,trivial⟩ (List.nil_sublist _) ⟨Nat.le_refl _,by rw [Nat.div_eq_of_lt a.lt,Nat.div_eq_of_lt b.lt]⟩ ?_
 rintro n ⟨hn,he⟩
 rcases n with _|k
 ·rw [Nat.pow_zero,Nat.div_one,Nat.div_one] at he
  repeat' first|refine Zz ?_|intro _
  refine reE ?_
  unfold cmpW
  rw [if_neg (by omega),if_neg (by omega)]
  rfl
 ·rw [show ((k + 1:Nat):Int) - 1=(k:Int) by omega]
  have hka:k < (dgs a.n 32).length:=by omega
  have hkb:k < (dgs b.n 32).length:=by omega
  have ea:=dgs_get hka
  have eb:=dgs_get hkb
  have da:=div_dg a.n k
  have db:=div_dg b.n k
  repeat' first|refine Zz ?_|intro _
  refine ac_cond (fun h=>?_) (fun h=>?_)
  ·repeat' first|refine Vz ?_|intro _
   refine reE ?_
   have:a.n < b.n:=lt_of_div (P:=256 ^ k) (by omega)
   unfold cmpW
   rw [if_pos this]
   rfl
  ·repeat' first|refine Vz ?_|intro _
   refine ac_cond (fun h2=>?_) (fun h2=>?_)
   ·repeat' first|refine Vz ?_|intro _
    refine reE ?_
    have:b.n < a.n:=lt_of_div (P:=256 ^ k) (by omega)
    unfold cmpW
    rw [if_neg (by omega),if_pos this]
    rfl
   ·repeat' first|refine Vz ?_|intro _
    refine ae_round k ⟨rfl,rfl,rfl,trivial⟩ (List.nil_sublist _) ⟨by omega,by omega⟩ (Nat.lt_succ_self k)⟩
set_option maxHeartbeats 2000000 in
instance fnRWBytes {a:Wd}:Ans Tryz.prog GL 109 [widA a] True (str (beB a.n)):=⟨fun _=>by
 have hla:=dgs_len a.n 32
 have hbl:=beB_len a.n
 refine qE Tryz.func109 rfl Tryz.ntmps109 rfl (fun _ hs=>?_)
 repeat' first|refine Vz ?_|intro _
 refine ac_as 4 (Imp.nil (k:=1)) ?_
 refine ac_st (fun ok w h=>h.full 5 1 none 0) ?_
 refine ac_loop (α:=Nat × Value) (fun q=>[(3,.sl 1 (dI (dgs a.n 32)) none),(4,.sl 1 (((beB a.n).take (32 - q.1)).map u8A) (some q.2)),(5,int ((q.1:Int) - 1))]) (fun q=>[.tail 5 1 q.2]) (fun q=>q.1<=32) (fun q=>q.1) (32,.slice none 0 0) ⟨rfl,rfl,rfl,trivial⟩ (by repeat (first|exact List.nil_sublist _|exact List.Sublist.refl _|apply List.Sublist.cons_cons|apply List.Sublist.cons)) (Nat.le_refl _) ?_
 rintro⟨n,v⟩ hn
 dsimp only at hn ⊢
 rcases n with _|k
 ·rw [show 32 - 0=32 from rfl,List.take_of_length_le (by omega)]
  repeat' first|refine Zz ?_|intro _
  refine reE ?_
  rfl
 ·rw [show ((k + 1:Nat):Int) - 1=(k:Int) by omega]
  have hka:k < (dgs a.n 32).length:=by omega
  have ea:=dgs_get hka
  have hm:((beB a.n).take (32 - (k + 1))).length<=32:=by rw [List.length_take];omega
  have hm2:(((beB a.n).take (32 - (k + 1))).map u8A).length<=32:=by rw [llm];exact hm
  have e2:((beB a.n).take (32 - k)).map u8A=((beB a.n).take (32 - (k + 1))).map u8A++[u8A (UInt8.ofNat (dg a.n k))]:=by
   rw [show 32 - k=32 - (k + 1) + 1 by omega,beB_take (by omega),List.map_append,show 31 - (32 - (k + 1))=k by omega]
   rfl
  repeat' first|refine Zz ?_|intro _
  rw [ea,u8_wrap]
  refine al_append (fun v'=>?_)
  repeat' first|refine Vz ?_|intro _
  rw [<- e2]
  refine ae_round (k,v') ⟨rfl,rfl,rfl,trivial⟩ ?_ (by dsimp only;omega) (Nat.lt_succ_self k)
  repeat (first|exact List.nil_sublist _|exact List.Sublist.refl _|apply List.Sublist.cons_cons|apply List.Sublist.cons)⟩
theorem leN_lms {l:Bs}{i:Nat}:leN (l.take i) < 256 ^ i:=by
 have h:=leN_lt (l.take i)
 refine Nat.lt_of_lt_of_le h (Nat.pow_le_pow_right (by decide) ?_)
 rw [List.length_take]
 omega
theorem wid_set {n m i:Nat}{x:Nat}(hi:i < 4)(h:∀ j,j < 4->lm m j=if j=i then x else lm n j):[u6 (lm n 0),u6 (lm n 1),u6 (lm n 2),u6 (lm n 3)].set i (u6 x)=[u6 (lm m 0),u6 (lm m 1),u6 (lm m 2),u6 (lm m 3)]:=by
 have h0:=h 0 (by omega)
 have h1:=h 1 (by omega)
 have h2:=h 2 (by omega)
 have h3:=h 3 (by omega)
 rw [h0,h1,h2,h3]
 rcases i with _|_|_|_|i <;> first|rfl|omega
theorem put_lms {l:Bs}{i:Nat}(hi:i < l.length)(j:Nat):lm (leN (l.take (i + 1))) j=if j=i / 8 then lm (leN (l.take i)) (i / 8) + 256 ^ (i % 8) * l[i].toNat else lm (leN (l.take i)) j:=by
 rw [leN_take (List.getElem?_eq_getElem hi),lm_put leN_lms l[i].toNat_lt]
 split
 ·rename_i h;rw [h]
 ·rfl
set_option maxHeartbeats 2000000 in
instance fnNumber {l:Bs}{xs:List AV}{id:Option Value}[hx:DIs xs l]:Ans Tryz.prog GL 176 [.sl 1 xs id] (l.length=32\/l.length=33) (.tup [widA (wOf (leN l)),boo (wIs (leN l))]):=⟨fun hlen=>by
 have h:=hx.out
 subst h
 have hm:(dI l).length=l.length:=dI_len l
 have hbig:33=l.length->leN l=leN (l.take 32) + 256 ^ 32 * (l.getD 32 0).toNat:=fun h=>by
  have h1:=leN_take (List.getElem?_eq_getElem (show 32 < l.length by omega))
  rw [List.take_of_length_le (by omega)] at h1
  rw [h1,getD_in (by omega)]
 refine qE Tryz.func176 rfl Tryz.ntmps176 rfl (fun _ hs=>?_)
 repeat' first|refine Vz ?_|intro _
 rename_i g2 g4
 refine ac_asV (g:=g4) (v:=widN 0) (v':=widN (leN (l.take 0))) (fun ok w cs h=>h) ?_
 refine ac_loop (α:=Nat) (fun i=>[(0,.sl 1 (dI l) id),(2,ptr g2),(4,ptr g4),(5,int i)]) (fun i=>[.var g4 43 (widN (leN (l.take (min i 32)))),.var g2 43 (widN 0)])
  (fun i=>i<=l.length/\(i=33->l.getD 32 0=0)) (fun i=>l.length - i) 0 ⟨rfl,rfl,rfl,rfl,trivial⟩ slr ⟨Nat.zero_le _,fun h=>absurd h (by decide)⟩ ?_
 rintro i ⟨hi,h33⟩
 repeat' first|refine Vz ?_|intro _
 refine ac_cond (fun hlt=>?_) (fun hlt=>?_)
 ·have hil:i < l.length:=by omega
  repeat' first|refine Vz ?_|intro _
  by_cases h32:i=32
  ·subst h32
   have hl33:33=l.length:=by omega
   have hb:=hbig hl33
   repeat' first|refine Zz ?_|intro _
   refine ac_cond (fun h0=>?_) (fun h0=>?_)
   ·repeat' first|refine Vz ?_|intro _
    refine reE ?_
    have hc:1<=(l.getD 32 0).toNat:=by rw [getD_in hil];omega
    have hbb:¬ leN l < 115792089237316195423570985008687907853269984665640564039457584007913129639936:=by
     have h1:256 ^ 32 * 1<=256 ^ 32 * (l.getD 32 0).toNat:=Nat.mul_le_mul_left _ hc
     have h2:(256:Nat) ^ 32 * 1=115792089237316195423570985008687907853269984665640564039457584007913129639936:=by decide
     omega
    rw [wOf_big hbb,show wIs (leN l)=false from dZ hbb]
    rfl
   ·repeat' first|refine Zz ?_|intro _
    refine ae_round 33 ⟨rfl,rfl,rfl,rfl,trivial⟩ ?_ ⟨by omega,fun _=>by rw [getD_in hil];exact UInt8.toNat_inj.1 (by show _=0;omega)⟩ (by omega)
    exact sbl
  ·have hi32:i < 32:=by omega
   have hr:((i:Int) % 8)=((i % 8:Nat):Int):=by omega
   have hby:=l[i].toNat_lt
   have hps:=put_lms hil
   have htop:lm (leN (l.take i)) (i / 8) < 256 ^ (i % 8):=lm_top leN_lms
   have hset:=wid_set (n:=leN (l.take i)) (m:=leN (l.take (i + 1))) (x:=lm (leN (l.take i)) (i / 8) + 256 ^ (i % 8) * l[i].toNat) (show i / 8 < 4 by omega) (fun j _=>hps j)
   rw [Nat.min_eq_left (by omega)]
   repeat' first|refine Zz ?_|intro _
   apply obl_read [];exact rfl;exact rfl;kernel_rfl;intro _ _
   refine al_idxA (i / 8) ?_
   exact al_nil (ae_got rfl rfl)
   apply obl_read [0];exact rfl;exact rfl;kernel_rfl;intro _ _
   refine al_loadE (j:=i / 8) (wid_get (by omega)) ?_
   exact al_nil (ae_got rfl rfl)
   repeat' first|refine Yz ?_|intro _
   rw [hr]
   repeat' first|refine Yz ?_|intro _
   apply obl_read [];exact rfl;exact rfl;kernel_rfl;intro _ _
   refine al_shlB (i % 8) ?_
   exact al_nil (ae_got rfl rfl)
   apply obl_read [];exact rfl;exact rfl;kernel_rfl;intro _ _
   refine al_orP ?_ rfl rfl htop hby (by omega)
   exact al_nil (ae_got rfl rfl)
   repeat' first|refine Yz ?_|intro _
   apply obl_read [];exact rfl;exact rfl;kernel_rfl;intro _ _
   refine al_idxA (i / 8) ?_
   exact al_nil (ae_got rfl rfl)
   apply obl_writeN [0];exact rfl;exact rfl;kernel_rfl
   intro _ _
   refine al_storeE (ps:=[u6 (lm (leN (l.take i)) 0),u6 (lm (leN (l.take i)) 1),u6 (lm (leN (l.take i)) 2),u6 (lm (leN (l.take i)) 3)]) (j:=i / 8) (show i / 8 < 4 by omega) ?_
   exact al_nil (ae_gotN rfl)
   exact rfl
   exact rfl
   rw [hset]
   repeat' first|refine Yz ?_|intro _
   refine ae_round (i + 1) ⟨rfl,rfl,rfl,rfl,trivial⟩ ?_ ⟨hil,fun h=>absurd h (by omega)⟩ (by omega)
   rw [Nat.min_eq_left (by omega)]
   exact sbl
 ·obtain rfl:i=l.length:=by omega
  have hfin:leN (l.take (min l.length 32))=leN l:=by
   rcases hlen with h|h
   ·rw [Nat.min_eq_left (by omega),List.take_length]
   ·rw [Nat.min_eq_right (by omega),hbig h.symm,h33 h]
    rfl
  have hlt2:leN l < 115792089237316195423570985008687907853269984665640564039457584007913129639936:=by
   rw [<- hfin]
   refine Nat.lt_of_lt_of_le leN_lms ?_
   exact Nat.pow_le_pow_right (n:=256) (j:=32) (by decide) (by omega)
  rw [hfin]
  repeat' first|refine Vz ?_|intro _
  refine reE ?_
  rw [show wIs (leN l)=true from dT hlt2]
  show AV.tup [widN _,_]=.tup [widN _,_]
  rw [wOf_n hlt2]⟩
theorem dI_snoc (l:Bs)(c:UInt8):dI (l++[c])=dI l++[int (c.toNat:Int)]:=by
 unfold dI
 rw [List.map_append]
 rfl
set_option maxHeartbeats 2000000 in
instance fnRWFrom {s:Bs}:Ans Tryz.prog GL 95 [str s] (s.length<=1000000000) (.tup [widA (if s.length=32 then wOf (beN s) else wZ),int (if s.length=32 then 0 else 10)]):=⟨fun hl=>by
 refine qE Tryz.func95 rfl Tryz.ntmps95 rfl (fun _ hs=>?_)
 repeat' first|refine Vz ?_|intro _
 refine ac_cond (fun hne=>?_) (fun hne=>?_)
 ·have h32:¬ s.length=32:=by omega
  repeat' first|refine Vz ?_|intro _
  refine reE ?_
  rw [if_neg h32,if_neg h32]
  rfl
 have h32:s.length=32:=by omega
 repeat' first|refine Vz ?_|intro _
 rename_i g2
 refine ac_as 4 (Imp.nil (k:=1)) ?_
 refine ac_st (fun ok w h=>h.full 3 1 none 0) ?_
 refine ac_loop (α:=Nat × Value) (fun q=>[(0,str s),(2,ptr g2),(3,int 0),(4,.sl 1 (dI (s.reverse.take (32 - q.1))) (some q.2)),(5,int ((q.1:Int) - 1))]) (fun q=>[.tail 3 1 q.2,.var g2 43 (widN 0)]) (fun q=>q.1<=32) (fun q=>q.1) (32,.slice none 0 0) ⟨rfl,rfl,rfl,rfl,rfl,trivial⟩ (by repeat (first|exact List.nil_sublist _|exact List.Sublist.refl _|apply List.Sublist.cons_cons|apply List.Sublist.cons)) (Nat.le_refl _) ?_
 rintro⟨n,v⟩ hn
 dsimp only at hn ⊢
 rcases n with _|k
 ·rw [show 32 - 0=32 from rfl,List.take_of_length_le (by rw [List.length_reverse];omega)]
  have hrl:s.reverse.length=32\/s.reverse.length=33:=.inl (by rw [List.length_reverse];omega)
  repeat' first|refine Zz ?_|intro _
  refine reE ?_
  rw [if_pos h32,if_pos h32]
  rfl
 ·rw [show ((k + 1:Nat):Int) - 1=(k:Int) by omega]
  have hk:k < s.length:=by omega
  have hm:(s.reverse.take (32 - (k + 1))).length<=32:=by rw [List.length_take];omega
  have hm2:(dI (s.reverse.take (32 - (k + 1)))).length<=32:=by rw [dI_len];exact hm
  have e0:s.reverse[32 - (k + 1)]'(by rw [List.length_reverse];omega)=s[k]:=by
   rw [List.getElem_reverse]
   congr 1
   omega
  have e2:dI (s.reverse.take (32 - k))=dI (s.reverse.take (32 - (k + 1)))++[int (s[k].toNat:Int)]:=by
   rw [show 32 - k=32 - (k + 1) + 1 by omega,List.take_succ_eq_append_getElem (by rw [List.length_reverse];omega),dI_snoc,e0]
  repeat' first|refine Zz ?_|intro _
  have hby:=s[k].toNat_lt
  refine al_idxS k ?_ (List.getElem?_eq_getElem hk)
  repeat' first|refine Yz ?_|intro _
  refine al_append (fun v'=>?_)
  repeat' first|refine Vz ?_|intro _
  rw [<- e2]
  refine ae_round (k,v') ⟨rfl,rfl,rfl,rfl,rfl,trivial⟩ ?_ (by dsimp only;omega) (Nat.lt_succ_self k)
  repeat (first|exact List.nil_sublist _|exact List.Sublist.refl _|apply List.Sublist.cons_cons|apply List.Sublist.cons)⟩


def ixS (s:Bs):Nat:=s.findIdx fun c=>decide (c=47)
theorem ixS_lt {s:Bs}:ixS s < s.length↔noSl s=false:=by
 unfold ixS noSl
 rw [List.findIdx_lt_length]
 constructor
 ·rintro⟨x,hx,h⟩
  rw [List.all_eq_false]
  exact⟨x,hx,by simpa using h⟩
 ·intro h
  rw [List.all_eq_false] at h
  obtain⟨x,hx,h⟩:=h
  exact⟨x,hx,by simpa using h⟩
def ixI (s:Bs):Int:=if ixS s < s.length then (ixS s:Int) else -1
theorem ix_lib (s:Bs):Lib.indexByte s 47=ixI s:=by
 induction s with
 | nil=>rfl
 | cons c s ih=>
  rw [Lib.indexByte,ih]
  unfold ixI ixS
  rw [List.findIdx_cons,List.length_cons]
  by_cases h:c=47
  ·subst h
   simp
  ·have h2:(c == 47)=false:=by simpa using h
   rw [h2,dZ h]
   simp only [Bool.false_eq_true,if_false,cond_false]
   generalize s.findIdx (fun c=>decide (c=47))=k
   by_cases hk:k < s.length
   ·have h3:(((k:Nat):Int) == -1)=false:=by
     rw [beq_eq_false_iff_ne]
     omega
    have h4:k + 1 < s.length + 1:=by omega
    simp only [if_pos hk,if_pos h4,h3]
    simp
   ·have h4:¬ k + 1 < s.length + 1:=by omega
    simp only [if_neg hk,if_neg h4]
    rfl
theorem run_ix (s:Bs)(w:World):(Extern.BytealgIndexByte.indexByte #[sv s,.int .u8 47]).run Tryz.prog w=.ok (.int .i64 (ixI s)) w:=by
 have h:=Lib.run_indexByteString (P:=Tryz.prog) ⟨s.toArray⟩ 47 w
 rw [show (47:Int).toNat.toUInt8=47 from rfl,ix_lib] at h
 exact h
theorem run_cnt (s:Bs)(w:World):(Extern.BytealgCount.count #[sv s,.int .u8 47]).run Tryz.prog w=.ok (.int .i64 (s.count 47:Nat)) w:=
 Lib.run_countString (P:=Tryz.prog) ⟨s.toArray⟩ 47 w
instance fnIxB {s:Bs}:Ans Tryz.prog GL 381 [str s,.lit (u8v 47)] True (int (ixI s)):=⟨fun _=>by
 refine qE Tryz.func381 rfl Tryz.ntmps381 rfl (fun _ hs=>?_)
 repeat' first|refine Vz ?_|intro _
 apply al_ext (v:=int (ixI s)) Tryz.func393;kernel_rfl;exact rfl;kernel_rfl;kernel_rfl;exact rfl;exact rfl;exact rfl
 ·rintro ok w cs _ ⟨u1,us,rfl,h1,u2,us2,rfl,h2,rfl⟩
  rw [RV0.lit h1,RV0.lit h2]
  exact⟨_,run_ix s _,RVl rfl⟩
 repeat' first|refine Vz ?_|intro _
 refine reE ?_
 rfl⟩
instance fnIxL {s:Bs}:Ans Tryz.prog GL 367 [str s,str [47]] True (int (ixI s)):=⟨fun _=>by
 refine qE Tryz.func367 rfl Tryz.ntmps367 rfl (fun _ hs=>?_)
 repeat' first|refine Zz ?_|intro _
 refine ac_cond (fun h=>?_) (fun h=>?_)
 ·repeat' first|refine Zz ?_|intro _
  refine reE ?_
  rw [<- h]
  rfl
 have h1:([47]:Bs).length=1:=rfl
 repeat' first|refine Yz ?_|intro _
 refine reE ?_
 rfl⟩
instance fnIx {s:Bs}:Ans Tryz.prog GL 340 [str s,str [47]] True (int (ixI s)):=⟨fun _=>by
 refine qE Tryz.func340 rfl Tryz.ntmps340 rfl (fun _ hs=>?_)
 repeat' first|refine Vz ?_|intro _
 refine reE ?_
 rfl⟩
instance fnContains {s:Bs}:Ans Tryz.prog GL 282 [str s,str [47]] True (boo (!noSl s)):=⟨fun _=>by
 refine qE Tryz.func282 rfl Tryz.ntmps282 rfl (fun _ hs=>?_)
 repeat' first|refine Vz ?_|intro _
 refine reE ?_
 have h:decide (0<=ixI s)=!noSl s:=by
  unfold ixI
  by_cases h:ixS s < s.length
  ·rw [if_pos h,ixS_lt.1 h]
   exact dT (by omega)
  ·rw [if_neg h]
   have hn:noSl s=true:=by
    cases hh:noSl s
    ·exact absurd (ixS_lt.2 hh) h
    ·rfl
   rw [hn]
   rfl
 show boo _=_
 rw [h]⟩
instance fnCount {s:Bs}:Ans Tryz.prog GL 280 [str s,str [47]] True (int (s.count 47:Nat)):=⟨fun _=>by
 have h1:([47]:Bs).length=1:=rfl
 refine qE Tryz.func280 rfl Tryz.ntmps280 rfl (fun _ hs=>?_)
 repeat' first|refine Yz ?_|intro _
 apply al_ext (v:=int (s.count 47:Nat)) Tryz.func339;kernel_rfl;exact rfl;kernel_rfl;kernel_rfl;exact rfl;exact rfl;exact rfl
 ·rintro ok w cs _ ⟨u1,us,rfl,h1,u2,us2,rfl,h2,rfl⟩
  rw [RV0.lit h1,RV0.lit h2]
  exact⟨_,run_cnt s _,RVl rfl⟩
 repeat' first|refine Zz ?_|intro _
 refine reE ?_
 rfl⟩
instance fnHasPrefixL {s p:Bs}:Ans Tryz.prog GL 391 [str s,str p] True (boo (decide (s.take p.length=p))):=⟨fun _=>by
 refine qE Tryz.func391 rfl Tryz.ntmps391 rfl (fun _ hs=>?_)
 repeat' first|refine Vz ?_|intro _
 refine gu1 (fun h=>?_) (fun h=>?_)
 ·repeat' first|refine Vz ?_|intro _
  refine al_sliceS 0 p.length ?_
  repeat' first|refine Vz ?_|intro _
  refine reE ?_
  rfl
 ·repeat' first|refine Zz ?_|intro _
  refine reE ?_
  have:¬ s.take p.length=p:=fun e=>by
   have h2:=congrArg List.length e
   rw [List.length_take] at h2
   omega
  rw [dZ this]
  rfl⟩
instance fnCutPrefixL {s p:Bs}:Ans Tryz.prog GL 388 [str s,str p] True (.tup [str (if s.take p.length=p then s.drop p.length else s),boo (decide (s.take p.length=p))]):=⟨fun _=>by
 refine qE Tryz.func388 rfl Tryz.ntmps388 rfl (fun _ hs=>?_)
 repeat' first|refine Vz ?_|intro _
 refine ac_cond (fun h=>?_) (fun h=>?_)
 ·repeat' first|refine Vz ?_|intro _
  refine reE ?_
  rw [if_neg h,dZ h]
  rfl
 ·have h':s.take p.length=p:=Classical.not_not.1 h
  have hl:p.length<=s.length:=by
   have h2:=congrArg List.length h'
   rw [List.length_take] at h2
   omega
  repeat' first|refine Vz ?_|intro _
  refine al_sliceS p.length s.length ?_
  repeat' first|refine Vz ?_|intro _
  refine reE ?_
  rw [if_pos h',dT h',List.take_length]
  rfl⟩
instance fnCutPrefix {s p:Bs}:Ans Tryz.prog GL 374 [str s,str p] True (.tup [str (if s.take p.length=p then s.drop p.length else s),boo (decide (s.take p.length=p))]):=⟨fun _=>by
 refine qE Tryz.func374 rfl Tryz.ntmps374 rfl (fun _ hs=>?_)
 repeat' first|refine Vz ?_|intro _
 refine reE ?_
 rfl⟩
end Go.Proofs.YtlmcongmglfaeaaGreatDoor
