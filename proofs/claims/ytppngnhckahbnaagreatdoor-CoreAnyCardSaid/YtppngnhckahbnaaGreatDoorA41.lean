/- keys, walked; packets: checks, answers -/
import Derived.Test.YtppngnhckahbnaaGreatDoorA30
import Derived.Test.YtppngnhckahbnaaGreatDoorA31
import Derived.Test.YtppngnhckahbnaaGreatDoorA37
import Derived.Test.YtppngnhckahbnaaGreatDoorA39
import Derived.Test.YtppngnhckahbnaaGreatDoorA40
namespace Go.Proofs.YtppngnhckahbnaaGreatDoor
open Go Go.RowKit Tw Av
abbrev dI (l:Bs):List AV:=l.map fun c=>int (c.toNat:Int)
class DIs (xs:List AV)(l:outParam Bs):Prop where
 out:xs=dI l
instance {l:Bs}:DIs (dI l) l:=⟨rfl⟩
theorem dI_len (l:Bs):(dI l).length=l.length:=List.length_map _
theorem dgs_snoc {n k:Nat}:dI (dgs n (k + 1))=dI (dgs n k)++[int ((dg n k:Nat):Int)]:=by
 rw [dgs_succ]
 unfold dI
 rw [List.map_append,List.map_singleton,ofNat_dg]
set_option maxHeartbeats 1000000 in
instance fnDigits {a:Wd}:Ans Tryz.prog GL 93 [widA a] True (.sl 1 (dI (dgs a.n 32)) none):=⟨fun _=>by
 refine spec_enter Tryz.func93 rfl Tryz.ntmps93 rfl (fun _ hs=>?_)
 repeat' first|refine Vz ?_|intro _
 rename_i g1
 refine ac_as 3 (Imp.nil (k:=1)) ?_
 refine ac_st (fun ok w h=>h.full 3 1 none 0) ?_
 refine ac_loop (α:=Nat × Value) (fun q=>[(1,ptr g1),(3,.sl 1 (dI (dgs a.n q.1)) (some q.2)),(4,int q.1)]) (fun q=>[.tail 3 1 q.2,.var g1 43 (widA a)]) (fun q=>q.1≤32) (fun q=>32 - q.1) (0,.slice none 0 0) ⟨rfl,rfl,rfl,trivial⟩ (List.Sublist.refl _) (Nat.zero_le _) ?_
 rintro⟨i,v⟩ hi
 dsimp only at hi ⊢
 have hm:(dI (dgs a.n i)).length=i:=by rw [dI_len,dgs_len]
 have hm2:=dgs_len a.n i
 repeat' first|refine Vz ?_|intro _
 refine ac_cond (fun hlt=>?_) (fun hlt=>?_)
 ·have hi32:i < 32:=by omega
  have hq:((i:Int) / 8)=((i / 8:Nat):Int):=by omega
  have hr:((i:Int) % 8)=((i % 8:Nat):Int):=by omega
  have hlm:=lm_lt a.n (i / 8)
  have hdv:lm a.n (i / 8) / 256 ^ (i % 8) < 18446744073709551616:=Nat.lt_of_le_of_lt (Nat.div_le_self _ _) hlm
  have e1:=lm_dg a.n i
  have e2:=dg_lt a.n i
  repeat' first|refine Vz ?_|intro _
  refine al_idxA (i / 8) ?_
  repeat' first|refine Vz ?_|intro _
  refine al_loadE (j:=i / 8) (wid_get (by omega)) ?_
  repeat' first|refine Vz ?_|intro _
  rw [hr]
  repeat' first|refine Yz ?_|intro _
  refine al_shrB (i % 8) ?_
  refine al_and255 hdv ?_
  rw [e1]
  repeat' first|refine Vz ?_|intro _
  refine al_append (fun v'=>?_)
  repeat' first|refine Vz ?_|intro _
  rw [← dgs_snoc]
  refine ae_round (i + 1,v') ⟨rfl,rfl,rfl,trivial⟩ ?_ hi32 (by dsimp only;omega)
  exact sbl
 ·obtain rfl:i=32:=by omega
  repeat' first|refine Vz ?_|intro _
  refine reI ?_
  exact Imp.sl⟩
theorem dgs_get {n k i:Nat}(h:i < (dgs n k).length):(dgs n k)[i].toNat=dg n i:=by
 have h1:i < k:=by rw [dgs_len] at h;exact h
 have h2:=dgs_at (n:=n) h1
 rw [List.getElem?_eq_getElem h] at h2
 injection h2 with h2
 rw [h2,ofNat_dg]
set_option maxHeartbeats 2000000 in
instance fnRCompare {a b:Wd}:Ans Tryz.prog GL 46 [widA a,widA b] True (int (cmpW a b)):=⟨fun _=>by
 have hla:=dgs_len a.n 32
 have hlb:=dgs_len b.n 32
 refine spec_enter Tryz.func46 rfl Tryz.ntmps46 rfl (fun _ hs=>?_)
 repeat' first|refine Vz ?_|intro _
 rename_i g2 g3
 refine ac_loop (α:=Nat) (fun n=>[(5,.sl 1 (dI (dgs a.n 32)) none),(6,.sl 1 (dI (dgs b.n 32)) none),(7,int ((n:Int) - 1))]) (fun n=>[]) (fun n=>n≤32∧a.n / 256 ^ n=b.n / 256 ^ n) (fun n=>n) 32 ⟨rfl,rfl,rfl,trivial⟩ (List.nil_sublist _) ⟨Nat.le_refl _,by rw [Nat.div_eq_of_lt a.lt,Nat.div_eq_of_lt b.lt]⟩ ?_
 rintro n ⟨hn,he⟩
 rcases n with _|k
 ·rw [Nat.pow_zero,Nat.div_one,Nat.div_one] at he
  repeat' first|refine Zz ?_|intro _
  refine reE ?_
  unfold cmpW
  rw [if_neg (by omega),if_neg (by omega)]
  rfl
 ·rw [show ((k + 1:Nat):Int) - 1=(k:Int) by omega]
  have hka:k < (dgs a.n 32).length:=by omega
  have hkb:k < (dgs b.n 32).length:=by omega
  have ea:=dgs_get hka
  have eb:=dgs_get hkb
  have da:=div_dg a.n k
  have db:=div_dg b.n k
  repeat' first|refine Zz ?_|intro _
  refine ac_cond (fun h=>?_) (fun h=>?_)
  ·repeat' first|refine Vz ?_|intro _
   refine reE ?_
   have:a.n < b.n:=lt_of_div (P:=256 ^ k) (by omega)
   unfold cmpW
   rw [if_pos this]
   rfl
  ·repeat' first|refine Vz ?_|intro _
   refine ac_cond (fun h2=>?_) (fun h2=>?_)
   ·repeat' first|refine Vz ?_|intro _
    refine reE ?_
    have:b.n < a.n:=lt_of_div (P:=256 ^ k) (by omega)
    unfold cmpW
    rw [if_neg (by omega),if_pos this]
    rfl
   ·repeat' first|refine Vz ?_|intro _
    refine ae_round k ⟨rfl,rfl,rfl,trivial⟩ (List.nil_sublist _) ⟨by omega,by omega⟩ (Nat.lt_succ_self k)⟩
set_option maxHeartbeats 2000000 in
instance fnRWBytes {a:Wd}:Ans Tryz.prog GL 125 [widA a] True (str (beB a.n)):=⟨fun _=>by
 have hla:=dgs_len a.n 32
 have hbl:=beB_len a.n
 refine spec_enter Tryz.func125 rfl Tryz.ntmps125 rfl (fun _ hs=>?_)
 repeat' first|refine Vz ?_|intro _
 refine ac_as 4 (Imp.nil (k:=1)) ?_
 refine ac_st (fun ok w h=>h.full 5 1 none 0) ?_
 refine ac_loop (α:=Nat × Value) (fun q=>[(3,.sl 1 (dI (dgs a.n 32)) none),(4,.sl 1 (((beB a.n).take (32 - q.1)).map u8A) (some q.2)),(5,int ((q.1:Int) - 1))]) (fun q=>[.tail 5 1 q.2]) (fun q=>q.1≤32) (fun q=>q.1) (32,.slice none 0 0) ⟨rfl,rfl,rfl,trivial⟩ (by repeat (first|exact List.nil_sublist _|exact List.Sublist.refl _|apply List.Sublist.cons_cons|apply List.Sublist.cons)) (Nat.le_refl _) ?_
 rintro⟨n,v⟩ hn
 dsimp only at hn ⊢
 rcases n with _|k
 ·rw [show 32 - 0=32 from rfl,List.take_of_length_le (by omega)]
  repeat' first|refine Zz ?_|intro _
  refine reE ?_
  rfl
 ·rw [show ((k + 1:Nat):Int) - 1=(k:Int) by omega]
  have hka:k < (dgs a.n 32).length:=by omega
  have ea:=dgs_get hka
  have hm:((beB a.n).take (32 - (k + 1))).length≤32:=by rw [List.length_take];omega
  have hm2:(((beB a.n).take (32 - (k + 1))).map u8A).length≤32:=by rw [List.length_map];exact hm
  have e2:((beB a.n).take (32 - k)).map u8A=((beB a.n).take (32 - (k + 1))).map u8A++[u8A (UInt8.ofNat (dg a.n k))]:=by
   rw [show 32 - k=32 - (k + 1) + 1 by omega,beB_take (by omega),List.map_append,show 31 - (32 - (k + 1))=k by omega]
   rfl
  repeat' first|refine Zz ?_|intro _
  rw [ea,u8_wrap]
  refine al_append (fun v'=>?_)
  repeat' first|refine Vz ?_|intro _
  rw [← e2]
  refine ae_round (k,v') ⟨rfl,rfl,rfl,trivial⟩ ?_ (by dsimp only;omega) (Nat.lt_succ_self k)
  repeat (first|exact List.nil_sublist _|exact List.Sublist.refl _|apply List.Sublist.cons_cons|apply List.Sublist.cons)⟩
theorem leN_lms {l:Bs}{i:Nat}:leN (l.take i) < 256 ^ i:=by
 have h:=leN_lt (l.take i)
 refine Nat.lt_of_lt_of_le h (Nat.pow_le_pow_right (by decide) ?_)
 rw [List.length_take]
 omega
theorem wid_set {n m i:Nat}{x:Nat}(hi:i < 4)(h:∀ j,j < 4→lm m j=if j=i then x else lm n j):[u6 (lm n 0),u6 (lm n 1),u6 (lm n 2),u6 (lm n 3)].set i (u6 x)=[u6 (lm m 0),u6 (lm m 1),u6 (lm m 2),u6 (lm m 3)]:=by
 have h0:=h 0 (by omega)
 have h1:=h 1 (by omega)
 have h2:=h 2 (by omega)
 have h3:=h 3 (by omega)
 rw [h0,h1,h2,h3]
 rcases i with _|_|_|_|i <;> first|rfl|omega
theorem put_lms {l:Bs}{i:Nat}(hi:i < l.length)(j:Nat):lm (leN (l.take (i + 1))) j=if j=i / 8 then lm (leN (l.take i)) (i / 8) + 256 ^ (i % 8) * l[i].toNat else lm (leN (l.take i)) j:=by
 rw [leN_take (List.getElem?_eq_getElem hi),lm_put leN_lms l[i].toNat_lt]
 split
 ·rename_i h;rw [h]
 ·rfl
set_option maxHeartbeats 2000000 in
instance fnNumber {l:Bs}{xs:List AV}{id:Option Value}[hx:DIs xs l]:Ans Tryz.prog GL 94 [.sl 1 xs id] (l.length=32∨l.length=33) (.tup [widA (wOf (leN l)),boo (wIs (leN l))]):=⟨fun hlen=>by
 have h:=hx.out
 subst h
 have hm:(dI l).length=l.length:=dI_len l
 have hbig:33=l.length→leN l=leN (l.take 32) + 256 ^ 32 * (l.getD 32 0).toNat:=fun h=>by
  have h1:=leN_take (List.getElem?_eq_getElem (show 32 < l.length by omega))
  rw [List.take_of_length_le (by omega)] at h1
  rw [h1,getD_in (by omega)]
 refine spec_enter Tryz.func94 rfl Tryz.ntmps94 rfl (fun _ hs=>?_)
 repeat' first|refine Vz ?_|intro _
 rename_i g2 g4
 refine ac_asV (g:=g4) (v:=widN 0) (v':=widN (leN (l.take 0))) (fun ok w cs h=>h) ?_
 refine ac_loop (α:=Nat) (fun i=>[(0,.sl 1 (dI l) id),(2,ptr g2),(4,ptr g4),(5,int i)]) (fun i=>[.var g4 43 (widN (leN (l.take (min i 32)))),.var g2 43 (widN 0)])
  (fun i=>i≤l.length∧(i=33→l.getD 32 0=0)) (fun i=>l.length - i) 0 ⟨rfl,rfl,rfl,rfl,trivial⟩ (List.Sublist.refl _) ⟨Nat.zero_le _,fun h=>absurd h (by decide)⟩ ?_
 rintro i ⟨hi,h33⟩
 repeat' first|refine Vz ?_|intro _
 refine ac_cond (fun hlt=>?_) (fun hlt=>?_)
 ·have hil:i < l.length:=by omega
  repeat' first|refine Vz ?_|intro _
  by_cases h32:i=32
  ·subst h32
   have hl33:33=l.length:=by omega
   have hb:=hbig hl33
   repeat' first|refine Zz ?_|intro _
   refine ac_cond (fun h0=>?_) (fun h0=>?_)
   ·repeat' first|refine Vz ?_|intro _
    refine reE ?_
    have hc:1≤(l.getD 32 0).toNat:=by rw [getD_in hil];omega
    have hbb:¬ leN l < 115792089237316195423570985008687907853269984665640564039457584007913129639936:=by
     have h1:256 ^ 32 * 1≤256 ^ 32 * (l.getD 32 0).toNat:=Nat.mul_le_mul_left _ hc
     have h2:(256:Nat) ^ 32 * 1=115792089237316195423570985008687907853269984665640564039457584007913129639936:=by decide
     omega
    rw [wOf_big hbb,show wIs (leN l)=false from decide_eq_false hbb]
    rfl
   ·repeat' first|refine Zz ?_|intro _
    refine ae_round 33 ⟨rfl,rfl,rfl,rfl,trivial⟩ ?_ ⟨by omega,fun _=>by rw [getD_in hil];exact UInt8.toNat_inj.1 (by show _=0;omega)⟩ (by omega)
    exact sbl
  ·have hi32:i < 32:=by omega
   have hr:((i:Int) % 8)=((i % 8:Nat):Int):=by omega
   have hby:=l[i].toNat_lt
   have hps:=put_lms hil
   have htop:lm (leN (l.take i)) (i / 8) < 256 ^ (i % 8):=lm_top leN_lms
   have hset:=wid_set (n:=leN (l.take i)) (m:=leN (l.take (i + 1))) (x:=lm (leN (l.take i)) (i / 8) + 256 ^ (i % 8) * l[i].toNat) (show i / 8 < 4 by omega) (fun j _=>hps j)
   rw [Nat.min_eq_left (by omega)]
   repeat' first|refine Zz ?_|intro _
   apply obl_read [];exact rfl;exact rfl;kernel_rfl;intro _ _
   refine al_idxA (i / 8) ?_
   exact al_nil (ae_got rfl rfl)
   apply obl_read [0];exact rfl;exact rfl;kernel_rfl;intro _ _
   refine al_loadE (j:=i / 8) (wid_get (by omega)) ?_
   exact al_nil (ae_got rfl rfl)
   repeat' first|refine Yz ?_|intro _
   rw [hr]
   repeat' first|refine Yz ?_|intro _
   apply obl_read [];exact rfl;exact rfl;kernel_rfl;intro _ _
   refine al_shlB (i % 8) ?_
   exact al_nil (ae_got rfl rfl)
   apply obl_read [];exact rfl;exact rfl;kernel_rfl;intro _ _
   refine al_orP ?_ rfl rfl htop hby (by omega)
   exact al_nil (ae_got rfl rfl)
   repeat' first|refine Yz ?_|intro _
   apply obl_read [];exact rfl;exact rfl;kernel_rfl;intro _ _
   refine al_idxA (i / 8) ?_
   exact al_nil (ae_got rfl rfl)
   apply obl_writeN [0];exact rfl;exact rfl;kernel_rfl
   intro _ _
   refine al_storeE (ps:=[u6 (lm (leN (l.take i)) 0),u6 (lm (leN (l.take i)) 1),u6 (lm (leN (l.take i)) 2),u6 (lm (leN (l.take i)) 3)]) (j:=i / 8) (show i / 8 < 4 by omega) ?_
   exact al_nil (ae_gotN rfl)
   exact rfl
   exact rfl
   rw [hset]
   repeat' first|refine Yz ?_|intro _
   refine ae_round (i + 1) ⟨rfl,rfl,rfl,rfl,trivial⟩ ?_ ⟨hil,fun h=>absurd h (by omega)⟩ (by omega)
   rw [Nat.min_eq_left (by omega)]
   exact sbl
 ·obtain rfl:i=l.length:=by omega
  have hfin:leN (l.take (min l.length 32))=leN l:=by
   rcases hlen with h|h
   ·rw [Nat.min_eq_left (by omega),List.take_length]
   ·rw [Nat.min_eq_right (by omega),hbig h.symm,h33 h]
    rfl
  have hlt2:leN l < 115792089237316195423570985008687907853269984665640564039457584007913129639936:=by
   rw [← hfin]
   refine Nat.lt_of_lt_of_le leN_lms ?_
   exact Nat.pow_le_pow_right (n:=256) (j:=32) (by decide) (by omega)
  rw [hfin]
  repeat' first|refine Vz ?_|intro _
  refine reE ?_
  rw [show wIs (leN l)=true from decide_eq_true hlt2]
  show AV.tup [widN _,_]=.tup [widN _,_]
  rw [wOf_n hlt2]⟩
theorem dI_snoc (l:Bs)(c:UInt8):dI (l++[c])=dI l++[int (c.toNat:Int)]:=by
 unfold dI
 rw [List.map_append]
 rfl
set_option maxHeartbeats 2000000 in
instance fnRWFrom {s:Bs}:Ans Tryz.prog GL 111 [str s] (s.length≤1000000000) (.tup [widA (if s.length=32 then wOf (beN s) else wZ),int (if s.length=32 then 0 else 10)]):=⟨fun hl=>by
 refine spec_enter Tryz.func111 rfl Tryz.ntmps111 rfl (fun _ hs=>?_)
 repeat' first|refine Vz ?_|intro _
 refine ac_cond (fun hne=>?_) (fun hne=>?_)
 ·have h32:¬ s.length=32:=by omega
  repeat' first|refine Vz ?_|intro _
  refine reE ?_
  rw [if_neg h32,if_neg h32]
  rfl
 have h32:s.length=32:=by omega
 repeat' first|refine Vz ?_|intro _
 rename_i g2
 refine ac_as 4 (Imp.nil (k:=1)) ?_
 refine ac_st (fun ok w h=>h.full 3 1 none 0) ?_
 refine ac_loop (α:=Nat × Value) (fun q=>[(0,str s),(2,ptr g2),(3,int 0),(4,.sl 1 (dI (s.reverse.take (32 - q.1))) (some q.2)),(5,int ((q.1:Int) - 1))]) (fun q=>[.tail 3 1 q.2,.var g2 43 (widN 0)]) (fun q=>q.1≤32) (fun q=>q.1) (32,.slice none 0 0) ⟨rfl,rfl,rfl,rfl,rfl,trivial⟩ (by repeat (first|exact List.nil_sublist _|exact List.Sublist.refl _|apply List.Sublist.cons_cons|apply List.Sublist.cons)) (Nat.le_refl _) ?_
 rintro⟨n,v⟩ hn
 dsimp only at hn ⊢
 rcases n with _|k
 ·rw [show 32 - 0=32 from rfl,List.take_of_length_le (by rw [List.length_reverse];omega)]
  have hrl:s.reverse.length=32∨s.reverse.length=33:=.inl (by rw [List.length_reverse];omega)
  repeat' first|refine Zz ?_|intro _
  refine reE ?_
  rw [if_pos h32,if_pos h32]
  rfl
 ·rw [show ((k + 1:Nat):Int) - 1=(k:Int) by omega]
  have hk:k < s.length:=by omega
  have hm:(s.reverse.take (32 - (k + 1))).length≤32:=by rw [List.length_take];omega
  have hm2:(dI (s.reverse.take (32 - (k + 1)))).length≤32:=by rw [dI_len];exact hm
  have e0:s.reverse[32 - (k + 1)]'(by rw [List.length_reverse];omega)=s[k]:=by
   rw [List.getElem_reverse]
   congr 1
   omega
  have e2:dI (s.reverse.take (32 - k))=dI (s.reverse.take (32 - (k + 1)))++[int (s[k].toNat:Int)]:=by
   rw [show 32 - k=32 - (k + 1) + 1 by omega,List.take_succ_eq_append_getElem (by rw [List.length_reverse];omega),dI_snoc,e0]
  repeat' first|refine Zz ?_|intro _
  have hby:=s[k].toNat_lt
  refine al_idxS k ?_ (List.getElem?_eq_getElem hk)
  repeat' first|refine Yz ?_|intro _
  refine al_append (fun v'=>?_)
  repeat' first|refine Vz ?_|intro _
  rw [← e2]
  refine ae_round (k,v') ⟨rfl,rfl,rfl,rfl,rfl,trivial⟩ ?_ (by dsimp only;omega) (Nat.lt_succ_self k)
  repeat (first|exact List.nil_sublist _|exact List.Sublist.refl _|apply List.Sublist.cons_cons|apply List.Sublist.cons)⟩
end Go.Proofs.YtppngnhckahbnaaGreatDoor

namespace Go.Proofs.YtppngnhckahbnaaGreatDoor
open Go Go.RowKit Tw Av
set_option maxHeartbeats 2000000 in
instance fnRWAdd {a b:Wd}:Ans Tryz.prog GL 44 [widA a,widA b] True (.tup [widA (wOf (a.n + b.n)),boo (wIs (a.n + b.n))]):=⟨fun _=>by
 have hla:=dgs_len a.n 32
 have hlb:=dgs_len b.n 32
 refine spec_enter Tryz.func44 rfl Tryz.ntmps44 rfl (fun _ hs=>?_)
 repeat' first|refine Vz ?_|intro _
 rename_i g2 g3 g4
 refine ac_as 8 (Imp.nil (k:=1)) ?_
 refine ac_st (fun ok w h=>h.full 3 1 none 0) ?_
 refine ac_loop (α:=Nat × Value) (fun q=>[(4,ptr g4),(6,.sl 1 (dI (dgs a.n 32)) none),(7,.sl 1 (dI (dgs b.n 32)) none),(8,.sl 1 (dI (dgs (a.n + b.n) q.1)) (some q.2)),(9,int (cry a.n b.n q.1)),(10,int q.1)]) (fun q=>[.tail 3 1 q.2,.var g4 43 (widN 0)]) (fun q=>q.1≤32) (fun q=>32 - q.1) (0,.slice none 0 0) ⟨rfl,rfl,rfl,rfl,?_,rfl,trivial⟩ (by repeat (first|exact List.nil_sublist _|exact List.Sublist.refl _|apply List.Sublist.cons_cons|apply List.Sublist.cons)) (Nat.zero_le _) ?_
 ·rw [cry0]
  rfl
 rintro⟨i,v⟩ hi
 dsimp only at hi ⊢
 have hm:(dI (dgs (a.n + b.n) i)).length=i:=by rw [dI_len,dgs_len]
 have hm2:=dgs_len (a.n + b.n) i
 have c1:=(add_dg a.n b.n i).1
 repeat' first|refine Vz ?_|intro _
 refine ac_cond (fun hlt=>?_) (fun hlt=>?_)
 ·have hka:i < (dgs a.n 32).length:=by omega
  have hkb:i < (dgs b.n 32).length:=by omega
  have ea:=dgs_get hka
  have eb:=dgs_get hkb
  have da:=dg_lt a.n i
  have db:=dg_lt b.n i
  have e1:True→(((dgs a.n 32)[i].toNat:Int) + ((dgs b.n 32)[i].toNat:Int) + (cry a.n b.n i:Int)) % 256=((dg (a.n + b.n) i:Nat):Int):=fun _=>by
   obtain⟨c1,c2,c3⟩:=add_dg a.n b.n i
   omega
  have e2:True→(((dgs a.n 32)[i].toNat:Int) + ((dgs b.n 32)[i].toNat:Int) + (cry a.n b.n i:Int)) / 256=((cry a.n b.n (i + 1):Nat):Int):=fun _=>by
   obtain⟨c1,c2,c3⟩:=add_dg a.n b.n i
   omega
  repeat' first|refine Vz ?_|intro _
  rw [e1 trivial]
  repeat' first|refine Vz ?_|intro _
  refine al_append (fun v'=>?_)
  repeat' first|refine Vz ?_|intro _
  rw [e2 trivial,← dgs_snoc]
  refine ae_round (i + 1,v') ⟨rfl,rfl,rfl,rfl,rfl,rfl,trivial⟩ ?_ (by dsimp only;omega) (by dsimp only;omega)
  exact sbl
 ·obtain rfl:i=32:=by omega
  have hall:=add_all a b
  generalize cry a.n b.n 32=c at *
  have e3:dI (dgs (a.n + b.n) 32)++[int (c:Int)]=dI (dgs (a.n + b.n) 32++[UInt8.ofNat c]):=by
   have h1:(UInt8.ofNat c).toNat=c:=by
    rw [UInt8.toNat_ofNat']
    exact Nat.mod_eq_of_lt (by omega)
   rw [dI_snoc,h1]
  have hlen:(dgs (a.n + b.n) 32++[UInt8.ofNat c]).length=32∨(dgs (a.n + b.n) 32++[UInt8.ofNat c]).length=33:=.inr (by rw [List.length_append,dgs_len];rfl)
  generalize dgs (a.n + b.n) 32=D at *
  generalize hX:D++[UInt8.ofNat c]=X at *
  repeat' first|refine Vz ?_|intro _
  refine al_append (fun v'=>?_)
  rw [e3]
  repeat' first|refine Vz ?_|intro _
  refine reE ?_
  rw [hall]
  rfl⟩
set_option maxHeartbeats 2000000 in
instance fnRWSub {a b:Wd}:Ans Tryz.prog GL 327 [widA a,widA b] True (.tup [widA (wOf (a.n - b.n)),boo (decide (b.n≤a.n))]):=⟨fun _=>by
 have hla:=dgs_len a.n 32
 have hlb:=dgs_len b.n 32
 by_cases hle:b.n≤a.n
 ·have hc:cmpW a b=0∨cmpW a b=1:=by
   unfold cmpW
   rw [if_neg (by omega)]
   split
   ·exact .inr rfl
   ·exact .inl rfl
  have hnn:0≤cmpW a b:=by omega
  obtain⟨d,hd⟩:∃ d,a.n=d + b.n:=⟨a.n - b.n,by omega⟩
  rw [decide_eq_true hle,show a.n - b.n=d by omega]
  have hdl:d < 115792089237316195423570985008687907853269984665640564039457584007913129639936:=Nat.lt_of_le_of_lt (by omega) a.lt
  refine spec_enter Tryz.func327 rfl Tryz.ntmps327 rfl (fun _ hs=>?_)
  repeat' first|refine Zz ?_|intro _
  rename_i g2 g3 g4
  refine ac_as 8 (Imp.nil (k:=1)) ?_
  refine ac_st (fun ok w h=>h.full 3 1 none 0) ?_
  refine ac_loop (α:=Nat × Value) (fun q=>[(4,ptr g4),(6,.sl 1 (dI (dgs a.n 32)) none),(7,.sl 1 (dI (dgs b.n 32)) none),(8,.sl 1 (dI (dgs d q.1)) (some q.2)),(9,int (cry d b.n q.1)),(10,int q.1)]) (fun q=>[.tail 3 1 q.2,.var g4 43 (widN 0)]) (fun q=>q.1≤32) (fun q=>32 - q.1) (0,.slice none 0 0) ⟨rfl,rfl,rfl,rfl,?_,rfl,trivial⟩ (by repeat (first|exact List.nil_sublist _|exact List.Sublist.refl _|apply List.Sublist.cons_cons|apply List.Sublist.cons)) (Nat.zero_le _) ?_
  ·rw [cry0]
   rfl
  rintro⟨i,v⟩ hi
  dsimp only at hi ⊢
  have hm:(dI (dgs d i)).length=i:=by rw [dI_len,dgs_len]
  have hm2:=dgs_len d i
  have c1:=(add_dg d b.n i).1
  repeat' first|refine Vz ?_|intro _
  refine ac_cond (fun hlt=>?_) (fun hlt=>?_)
  ·have hka:i < (dgs a.n 32).length:=by omega
   have hkb:i < (dgs b.n 32).length:=by omega
   have ea:=dgs_get hka
   have eb:=dgs_get hkb
   have da:=dg_lt a.n i
   have db:=dg_lt b.n i
   have dd:=dg_lt d i
   obtain⟨z,hz,hzz⟩:=sub_dg hd i
   have ez:(((dgs a.n 32)[i].toNat:Int) - ((dgs b.n 32)[i].toNat:Int) - (cry d b.n i:Int))=z:=by omega
   have e1:=dgs_snoc (n:=d) (k:=i)
   generalize dg d i=D at *
   have hzb:-257≤z∧z≤256:=by omega
   repeat' first|refine Vz ?_|intro _
   rw [ez]
   clear hd hz ez ea eb da db
   rcases hzz with⟨z1,z2,z3⟩|⟨z1,z2,z3⟩
   ·repeat' first|refine Zz ?_|intro _
    refine al_append (fun v'=>?_)
    repeat' first|refine Vz ?_|intro _
    rw [z2,← e1]
    refine ae_as 9 (v:=int 1) (v':=int (cry d b.n (i + 1))) (Imp.of_eq (by rw [z3];rfl)) ?_
    refine ae_round (i + 1,v') ⟨rfl,rfl,rfl,rfl,rfl,rfl,trivial⟩ ?_ (by dsimp only;omega) (by dsimp only;omega)
    exact sbl
   ·repeat' first|refine Zz ?_|intro _
    refine al_append (fun v'=>?_)
    repeat' first|refine Vz ?_|intro _
    rw [z2,← e1]
    refine ae_as 9 (v:=int 0) (v':=int (cry d b.n (i + 1))) (Imp.of_eq (by rw [z3];rfl)) ?_
    refine ae_round (i + 1,v') ⟨rfl,rfl,rfl,rfl,rfl,rfl,trivial⟩ ?_ (by dsimp only;omega) (by dsimp only;omega)
    exact sbl
  ·obtain rfl:i=32:=by omega
   have hlen:(dgs d 32).length=32∨(dgs d 32).length=33:=.inl (dgs_len d 32)
   have hall:=sub_all hdl
   generalize dgs d 32=X at *
   repeat' first|refine Vz ?_|intro _
   refine reE ?_
   rw [hall]
   rw [show wIs d=true from decide_eq_true hdl]
   rfl
 ·have hneg:cmpW a b=-1:=by
   unfold cmpW
   rw [if_pos (by omega)]
  rw [decide_eq_false hle,show a.n - b.n=0 by omega]
  refine spec_enter Tryz.func327 rfl Tryz.ntmps327 rfl (fun _ hs=>?_)
  repeat' first|refine Vz ?_|intro _
  rw [hneg]
  repeat' first|refine Zz ?_|intro _
  refine reE ?_
  rfl⟩
end Go.Proofs.YtppngnhckahbnaaGreatDoor

namespace Go.Proofs.YtppngnhckahbnaaGreatDoor
open Go Go.RowKit Tw Av
theorem tlvI_len (c:Int)(n:Int):(tlvI c n).length≤16777219:=(inferInstance:LenLe (tlvI c n) 16777219).out
instance fnKOf {k i:Bs}:Ans Tryz.prog GL 156 [str k,str i] (k.length≤1000000000) (str (kyO k i)):=⟨fun h=>by
 refine spec_enter Tryz.func156 rfl Tryz.ntmps156 rfl (fun _ hs=>?_)
 have hl:=tlvT_len 105 i
 repeat' first|refine Vz ?_|intro _
 refine reE ?_
 rfl⟩
instance fnKWith {k i:Bs}{n:Int}:Ans Tryz.prog GL 316 [str k,str i,int n] (k.length≤1000000000∧n≤9223372036854775807) (str (kyW k i n)):=⟨fun h=>by
 obtain⟨h1,h2⟩:=h
 have hl:=tlvT_len 105 i
 have hl2:(kyO k i).length≤2000000000:=by unfold kyO;rw [List.length_append];omega
 have hl3:=tlvI_len 113 n
 refine spec_enter Tryz.func316 rfl Tryz.ntmps316 rfl (fun _ hs=>?_)
 repeat' first|refine Vz ?_|intro _
 refine reE ?_
 rfl⟩
instance fnKClient {i:Bs}:Ans Tryz.prog GL 65 [str i] True (str (kyO [67] i)):=⟨fun _=>by
 refine spec_enter Tryz.func65 rfl Tryz.ntmps65 rfl (fun _ hs=>?_)
 repeat' first|refine Vz ?_|intro _
 refine reE ?_
 rfl⟩
instance fnKConn {i:Bs}:Ans Tryz.prog GL 70 [str i] True (str (kyO [75] i)):=⟨fun _=>by
 refine spec_enter Tryz.func70 rfl Tryz.ntmps70 rfl (fun _ hs=>?_)
 repeat' first|refine Vz ?_|intro _
 refine reE ?_
 rfl⟩
instance fnKChan {i:Bs}:Ans Tryz.prog GL 72 [str i] True (str (kyO [72] i)):=⟨fun _=>by
 refine spec_enter Tryz.func72 rfl Tryz.ntmps72 rfl (fun _ hs=>?_)
 repeat' first|refine Vz ?_|intro _
 refine reE ?_
 rfl⟩
instance fnKNext {i:Bs}:Ans Tryz.prog GL 79 [str i] True (str (kyO [78] i)):=⟨fun _=>by
 refine spec_enter Tryz.func79 rfl Tryz.ntmps79 rfl (fun _ hs=>?_)
 repeat' first|refine Vz ?_|intro _
 refine reE ?_
 rfl⟩
instance fnKSent {i:Bs}{n:Int}:Ans Tryz.prog GL 224 [str i,int n] (n≤9223372036854775807) (str (kyW [80] i n)):=⟨fun h=>by
 refine spec_enter Tryz.func224 rfl Tryz.ntmps224 rfl (fun _ hs=>?_)
 repeat' first|refine Vz ?_|intro _
 refine reE ?_
 rfl⟩
instance fnKGot {i:Bs}{n:Int}:Ans Tryz.prog GL 228 [str i,int n] (n≤9223372036854775807) (str (kyW [71] i n)):=⟨fun h=>by
 refine spec_enter Tryz.func228 rfl Tryz.ntmps228 rfl (fun _ hs=>?_)
 repeat' first|refine Vz ?_|intro _
 refine reE ?_
 rfl⟩
instance fnKNumber {n:Int}:Ans Tryz.prog GL 226 [int n] (n≤9223372036854775807) (str (tlvI 110 n)):=⟨fun h=>by
 refine spec_enter Tryz.func226 rfl Tryz.ntmps226 rfl (fun _ hs=>?_)
 repeat' first|refine Vz ?_|intro _
 refine reE ?_
 rfl⟩
theorem reE_10 {s:Bs}{b:Bool}(h:reE' s b≠0):reE' s b=10:=by
 unfold reE' at h ⊢
 split at h <;> simp_all
instance fnKRead {s:Bs}:Ans Tryz.prog GL 80 [str s] (s.length≤1000000000) (.tup [int (knV s),int (knE s)]):=⟨fun hl=>by
 refine spec_enter Tryz.func80 rfl Tryz.ntmps80 rfl (fun _ hs=>?_)
 repeat' first|refine Vz ?_|intro _
 refine al_callK (args:=[str s]) [] _ (by rw [hs];exact tlvRead) (fun u m1 hh=>?_) (List.Perm.refl _)
 obtain⟨gr,rfl,rfl⟩:=hh
 repeat' first|refine Vz ?_|intro _
 refine ac_cond (fun h=>?_) (fun h=>?_)
 ·repeat' first|refine Vz ?_|intro _
  refine reE ?_
  have h2:knE s=10:=reE_10 h
  unfold knV
  rw [h2]
  rfl
 ·repeat' first|refine Vz ?_|intro _
  refine reE ?_
  have h1:knE s=0:=Classical.not_not.1 h
  unfold knV
  rw [h1]
  rfl⟩
instance fnR16Of {k i:Bs}:Ans Tryz.prog GL 67 [str k,str i] (k.length≤1000000000) (str (kyO k i)):=⟨fun h=>by
 have hl:=tlvT_len 105 i
 refine spec_enter Tryz.func67 rfl Tryz.ntmps67 rfl (fun _ hs=>?_)
 repeat' first|refine Vz ?_|intro _
 refine reE ?_
 rfl⟩
instance fnR16With {k i:Bs}{n:Int}:Ans Tryz.prog GL 42 [str k,str i,int n] (k.length≤1000000000∧n≤9223372036854775807) (str (kyW k i n)):=⟨fun h=>by
 obtain⟨h1,h2⟩:=h
 have hl:=tlvT_len 105 i
 have hl2:(kyO k i).length≤2000000000:=by unfold kyO;rw [List.length_append];omega
 have hl3:=tlvI_len 113 n
 refine spec_enter Tryz.func42 rfl Tryz.ntmps42 rfl (fun _ hs=>?_)
 repeat' first|refine Vz ?_|intro _
 refine reE ?_
 rfl⟩
instance fnR16Read {s:Bs}:Ans Tryz.prog GL 81 [str s] (s.length≤1000000000) (.tup [int (knV s),int (knE s)]):=⟨fun hl=>by
 refine spec_enter Tryz.func81 rfl Tryz.ntmps81 rfl (fun _ hs=>?_)
 repeat' first|refine Vz ?_|intro _
 refine ac_cond (fun h=>?_) (fun h=>?_)
 ·repeat' first|refine Vz ?_|intro _
  refine reE ?_
  have h2:knE s=10:=reE_10 h
  unfold knV
  rw [h2]
  rfl
 ·repeat' first|refine Vz ?_|intro _
  refine reE ?_
  have h1:knE s=0:=Classical.not_not.1 h
  unfold knV
  rw [h1]
  rfl⟩
theorem within {n l:Int}:Ans Tryz.prog GL 307 [int n,int l] True (boo (decide (l≤n∧n≤1099511627776))):=⟨fun _=>by
 refine spec_enter Tryz.func307 rfl Tryz.ntmps307 rfl (fun _ hs=>?_)
 repeat' first|refine Vz ?_|intro _
 refine gu1 (fun h=>?_) (fun h=>?_)
 ·repeat' first|refine Vz ?_|intro _
  refine reE ?_
  rw [decide_eq_decide.2 (show (l≤n∧n≤1099511627776)↔(n≤1099511627776) by omega)]
  rfl
 ·repeat' first|refine Vz ?_|intro _
  refine reE ?_
  rw [decide_eq_false (show ¬ (l≤n∧n≤1099511627776) by omega)]
  rfl⟩
instance {n l:Int}:Ans Tryz.prog GL 307 [int n,int l] True (boo (decide (l≤n∧n≤1099511627776))):=within
def chkN (x:Pkt):Int:=if chkP x=true then 0 else 1
theorem chkN_no {x:Pkt}(h:numsP x=false∨namsP x=false∨coinP x=false):chkN x=1:=by
 unfold chkN chkP
 rcases h with h|h|h <;> rw [h] <;> simp
theorem chkN_yes {x:Pkt}(h1:numsP x=true)(h2:namsP x=true)(h3:coinP x=true):chkN x=0:=by
 unfold chkN chkP
 rw [h1,h2,h3]
 rfl
theorem numsP_no {q h t:Int}{s k d f g:Bs}{a:Wd}(e:¬ (1≤q∧q≤1099511627776)∨¬ (0≤h∧h≤1099511627776)∨¬ (0≤t∧t≤1099511627776)∨(h=0∧t=0)):chkN ⟨q,s,k,d,a,f,g,h,t⟩=1:=chkN_no (.inl (decide_eq_false (fun e2=>by simp only at e2;omega)))
theorem namsP_no {q h t:Int}{s k d f g:Bs}{a:Wd}(e:partB s=false∨partB k=false∨denB d=false):chkN ⟨q,s,k,d,a,f,g,h,t⟩=1:=chkN_no (.inr (.inl (by
 unfold namsP
 rcases e with e|e|e <;> simp [e])))
theorem coinP_no {q h t:Int}{s k d f g:Bs}{a:Wd}(e:a.n=0∨plainB f=false∨plainB g=false):chkN ⟨q,s,k,d,a,f,g,h,t⟩=1:=chkN_no (.inr (.inr (by
 unfold coinP
 rcases e with e|e|e <;> simp [e])))
theorem chkN_all {q h t:Int}{s k d f g:Bs}{a:Wd}(h1:1≤q∧q≤1099511627776)(h2:0≤h∧h≤1099511627776)(h3:0≤t∧t≤1099511627776)(h4:¬ (h=0∧t=0))(p1:partB s=true)(p2:partB k=true)(p3:denB d=true)(z:¬ a.n=0)(c1:plainB f=true)(c2:plainB g=true):chkN ⟨q,s,k,d,a,f,g,h,t⟩=0:=
 chkN_yes (decide_eq_true (by simp only;omega)) (by unfold namsP;simp [p1,p2,p3]) (by unfold coinP;simp [z,c1,c2])
set_option maxHeartbeats 4000000 in
instance fnPCheck {q:Int}{s k d:Bs}{a:Wd}{f g:Bs}{h t:Int}:Ans Tryz.prog GL 220 [.agg 12 [int q,str s,str k,.agg 7 [str d,widA a,str f,str g],int h,int t]] (d.length≤1000000000) (int (chkN ⟨q,s,k,d,a,f,g,h,t⟩)):=⟨fun hd=>by
 refine spec_enter Tryz.func220 rfl Tryz.ntmps220 rfl (fun _ hs=>?_)
 by_cases h1:1≤q∧q≤1099511627776
 rotate_left
 ·repeat' first|refine Zz ?_|intro _
  refine reE ?_
  rw [numsP_no (.inl h1)]
  rfl
 by_cases h2:0≤h∧h≤1099511627776
 rotate_left
 ·repeat' first|refine Zz ?_|intro _
  refine reE ?_
  rw [numsP_no (.inr (.inl h2))]
  rfl
 by_cases h3:0≤t∧t≤1099511627776
 rotate_left
 ·repeat' first|refine Zz ?_|intro _
  refine reE ?_
  rw [numsP_no (.inr (.inr (.inl h3)))]
  rfl
 by_cases h4:h=0∧t=0
 ·repeat' first|refine Zz ?_|intro _
  refine reE ?_
  rw [numsP_no (.inr (.inr (.inr h4)))]
  rfl
 repeat' first|refine Zz ?_|intro _
 by_cases h5:h=0
 all_goals
  repeat' first|refine Zz ?_|intro _
  cases p1:partB s
  focus
   repeat' first|refine Zz ?_|intro _
   refine reE ?_
   rw [namsP_no (.inl p1)]
   rfl
  repeat' first|refine Zz ?_|intro _
  cases p2:partB k
  focus
   repeat' first|refine Zz ?_|intro _
   refine reE ?_
   rw [namsP_no (.inr (.inl p2))]
   rfl
  repeat' first|refine Zz ?_|intro _
  cases p3:denB d
  focus
   repeat' first|refine Zz ?_|intro _
   refine reE ?_
   rw [namsP_no (.inr (.inr p3))]
   rfl
  repeat' first|refine Zz ?_|intro _
  by_cases z:a.n=0
  focus
   repeat' first|refine Zz ?_|intro _
   refine reE ?_
   rw [coinP_no (.inl z)]
   rfl
  repeat' first|refine Zz ?_|intro _
  cases c1:plainB f
  focus
   repeat' first|refine Zz ?_|intro _
   refine reE ?_
   rw [coinP_no (.inr (.inl c1))]
   rfl
  repeat' first|refine Zz ?_|intro _
  cases c2:plainB g
  focus
   repeat' first|refine Zz ?_|intro _
   refine reE ?_
   rw [coinP_no (.inr (.inr c2))]
   rfl
  repeat' first|refine Zz ?_|intro _
  refine reE ?_
  rw [chkN_all h1 h2 h3 h4 p1 p2 p3 z c1 c2]
  rfl⟩
set_option maxHeartbeats 4000000 in
instance fnR13Check {q:Int}{s k d:Bs}{a:Wd}{f g:Bs}{h t:Int}:Ans Tryz.prog GL 252 [.agg 12 [int q,str s,str k,.agg 7 [str d,widA a,str f,str g],int h,int t]] (s.length≤1000000000∧k.length≤1000000000∧d.length≤1000000000∧f.length≤1000000000∧g.length≤1000000000) (int (chkN ⟨q,s,k,d,a,f,g,h,t⟩)):=⟨fun hd=>by
 obtain⟨l1,l2,l3,l4,l5⟩:=hd
 refine spec_enter Tryz.func252 rfl Tryz.ntmps252 rfl (fun _ hs=>?_)
 repeat' first|refine Zz ?_|intro _
 cases p1:partB s
 focus
  repeat' first|refine Zz ?_|intro _
  refine reE ?_
  rw [namsP_no (.inl p1)]
  rfl
 repeat' first|refine Zz ?_|intro _
 cases p2:partB k
 focus
  repeat' first|refine Zz ?_|intro _
  refine reE ?_
  rw [namsP_no (.inr (.inl p2))]
  rfl
 repeat' first|refine Zz ?_|intro _
 cases p3:denB d
 focus
  repeat' first|refine Zz ?_|intro _
  refine reE ?_
  rw [namsP_no (.inr (.inr p3))]
  rfl
 repeat' first|refine Zz ?_|intro _
 cases c1:plainB f
 focus
  repeat' first|refine Zz ?_|intro _
  refine reE ?_
  rw [coinP_no (.inr (.inl c1))]
  rfl
 repeat' first|refine Zz ?_|intro _
 cases c2:plainB g
 focus
  repeat' first|refine Zz ?_|intro _
  refine reE ?_
  rw [coinP_no (.inr (.inr c2))]
  rfl
 repeat' first|refine Zz ?_|intro _
 rw [wd_z]
 by_cases z:a.n=0
 focus
  repeat' first|refine Zz ?_|intro _
  refine reE ?_
  rw [coinP_no (.inl z)]
  rfl
 by_cases h1:1≤q∧q≤1099511627776
 rotate_left
 focus
  by_cases h0:q < 1
  all_goals
   repeat' first|refine Zz ?_|intro _
   refine reE ?_
   rw [numsP_no (.inl h1)]
   rfl
 by_cases h2:0≤h∧h≤1099511627776
 rotate_left
 focus
  by_cases h0:h < 0
  all_goals
   repeat' first|refine Zz ?_|intro _
   refine reE ?_
   rw [numsP_no (.inr (.inl h2))]
   rfl
 by_cases h3:0≤t∧t≤1099511627776
 rotate_left
 focus
  by_cases h0:t < 0
  all_goals
   repeat' first|refine Zz ?_|intro _
   refine reE ?_
   rw [numsP_no (.inr (.inr (.inl h3)))]
   rfl
 by_cases h4:h=0
 focus
  by_cases h5:t=0
  focus
   repeat' first|refine Zz ?_|intro _
   refine reE ?_
   rw [numsP_no (.inr (.inr (.inr ⟨h4,h5⟩)))]
   rfl
  repeat' first|refine Zz ?_|intro _
  refine reE ?_
  rw [chkN_all h1 h2 h3 (fun e=>h5 e.2) p1 p2 p3 z c1 c2]
  rfl
 repeat' first|refine Zz ?_|intro _
 refine reE ?_
 rw [chkN_all h1 h2 h3 (fun e=>h4 e.1) p1 p2 p3 z c1 c2]
 rfl⟩
end Go.Proofs.YtppngnhckahbnaaGreatDoor
