/- names, walked: where a slash is; how many there are; what stands behind a name -/
import Derived.Lib.Bytealg
import Derived.Test.YtndhpgclmgpmoaaGreatDoorA26
import Derived.Test.YtndhpgclmgpmoaaGreatDoorA28
import Derived.Test.YtndhpgclmgpmoaaGreatDoorA36
import Derived.Test.YtndhpgclmgpmoaaGreatDoorA37
namespace Go.Proofs.YtndhpgclmgpmoaaGreatDoor
open Go Go.RowKit Tw Av
abbrev dI (l:Bs):List AV:=l.map fun c=>int (c.toNat:Int)
class DIs (xs:List AV)(l:outParam Bs):Prop where
 out:xs=dI l
instance {l:Bs}:DIs (dI l) l:=⟨rfl⟩
theorem dI_len (l:Bs):(dI l).length=l.length:=llm _
theorem dgs_snoc {n k:Nat}:dI (dgs n (k + 1))=dI (dgs n k)++[int ((dg n k:Nat):Int)]:=by
 rw [dgs_succ]
 unfold dI
 rw [List.map_append,List.map_singleton,ofNat_dg]
set_option maxHeartbeats 1000000 in
instance fnDigits {a:Wd}:Ans Tryz.prog GL 120 [widA a] True (.sl 1 (dI (dgs a.n 32)) none):=⟨fun _=>by
 refine qE Tryz.func120 rfl Tryz.ntmps120 rfl (fun _ hs=>?_)
 repeat' first|refine Vz ?_|intro _
 rename_i g1
 refine ac_as 3 (Imp.nil (k:=1)) ?_
 refine ac_st (fun ok w h=>h.full 3 1 none 0) ?_
 refine ac_loop (α:=Nat × Value) (fun q=>[(1,ptr g1),(3,.sl 1 (dI (dgs a.n q.1)) (some q.2)),(4,int q.1)]) (fun q=>[.tail 3 1 q.2,.var g1 86 (widA a)]) (fun q=>q.1<=32) (fun q=>32 - q.1) (0,.slice none 0 0) ⟨rfl,rfl,rfl,trivial⟩ slr (Nat.zero_le _) ?_
 rintro⟨i,v⟩ hi
 dsimp only at hi ⊢
 have hm:(dI (dgs a.n i)).length=i:=by rw [dI_len,dgs_len]
 have hm2:=dgs_len a.n i
 repeat' first|refine Vz ?_|intro _
 refine ac_cond (fun hlt=>?_) (fun hlt=>?_)
 ·have hi32:i < 32:=by omega
  have hq:((i:Int) / 8)=((i / 8:Nat):Int):=by omega
  have hr:((i:Int) % 8)=((i % 8:Nat):Int):=by omega
  have hlm:=lm_lt a.n (i / 8)
  have hdv:lm a.n (i / 8) / 256 ^ (i % 8) < 18446744073709551616:=Nat.lt_of_le_of_lt (Nat.div_le_self _ _) hlm
  have e1:=lm_dg a.n i
  have e2:=dg_lt a.n i
  repeat' first|refine Vz ?_|intro _
  refine al_idxA (i / 8) ?_
  repeat' first|refine Vz ?_|intro _
  refine al_loadE (j:=i / 8) (wid_get (by omega)) ?_
  repeat' first|refine Vz ?_|intro _
  rw [hr]
  repeat' first|refine Yz ?_|intro _
  refine al_shrB (i % 8) ?_
  refine al_and255 hdv ?_
  rw [e1]
  repeat' first|refine Vz ?_|intro _
  refine al_append (fun v'=>?_)
  repeat' first|refine Vz ?_|intro _
  rw [<- dgs_snoc]
  refine ae_round (i + 1,v') ⟨rfl,rfl,rfl,trivial⟩ ?_ hi32 (by dsimp only;omega)
  exact sbl
 ·obtain rfl:i=32:=by omega
  repeat' first|refine Vz ?_|intro _
  refine reI ?_
  exact Imp.sl⟩
theorem dgs_get {n k i:Nat}(h:i < (dgs n k).length):(dgs n k)[i].toNat=dg n i:=by
 have h1:i < k:=by rw [dgs_len] at h;exact h
 have h2:=dgs_at (n:=n) h1
 rw [List.getElem?_eq_getElem h] at h2
 injection h2 with h2
 rw [h2,ofNat_dg]
set_option maxHeartbeats 2000000 in
instance fnRCompare {a b:Wd}:Ans Tryz.prog GL 293 [widA a,widA b] True (int (cmpW a b)):=⟨fun _=>by
 have hla:=dgs_len a.n 32
 have hlb:=dgs_len b.n 32
 refine qE Tryz.func293 rfl Tryz.ntmps293 rfl (fun _ hs=>?_)
 repeat' first|refine Vz ?_|intro _
 rename_i g2 g3
 refine ac_loop (α:=Nat) (fun n=>[(5,.sl 1 (dI (dgs a.n 32)) none),(6,.sl 1 (dI (dgs b.n 32)) none),(7,int ((n:Int) - 1))]) (fun n=>[]) (fun n=>n<=32/\a.n / 256 ^ n=b.n / 256 ^ n) (fun n=>n) 32 ⟨rfl,rfl,rfl,trivial⟩ (List.nil_sublist _) ⟨Nat.le_refl _,by rw [Nat.div_eq_of_lt a.lt,Nat.div_eq_of_lt b.lt]⟩ ?_
 rintro n ⟨hn,he⟩
 rcases n with _|k
 ·rw [Nat.pow_zero,Nat.div_one,Nat.div_one] at he
  repeat' first|refine Zz ?_|intro _
  refine reE ?_
  unfold cmpW
  rw [if_neg (by omega),if_neg (by omega)]
  rfl
 ·rw [show ((k + 1:Nat):Int) - 1=(k:Int) by omega]
  have hka:k < (dgs a.n 32).length:=by omega
  have hkb:k < (dgs b.n 32).length:=by omega
  have ea:=dgs_get hka
  have eb:=dgs_get hkb
  have da:=div_dg a.n k
  have db:=div_dg b.n k
  repeat' first|refine Zz ?_|intro _
  refine ac_cond (fun h=>?_) (fun h=>?_)
  ·repeat' first|refine Vz ?_|intro _
   refine reE ?_
   have:a.n < b.n:=lt_of_div (P:=256 ^ k) (by omega)
   unfold cmpW
   rw [if_pos this]
   rfl
  ·repeat' first|refine Vz ?_|intro _
   refine ac_cond (fun h2=>?_) (fun h2=>?_)
   ·repeat' first|refine Vz ?_|intro _
    refine reE ?_
    have:b.n < a.n:=lt_of_div (P:=256 ^ k) (by omega)
    unfold cmpW
    rw [if_neg (by omega),if_pos this]
    rfl
   ·repeat' first|refine Vz ?_|intro _
    refine ae_round k ⟨rfl,rfl,rfl,trivial⟩ (List.nil_sublist _) ⟨by omega,by omega⟩ (Nat.lt_succ_self k)⟩
set_option maxHeartbeats 2000000 in
instance fnRWBytes {a:Wd}:Ans Tryz.prog GL 80 [widA a] True (str (beB a.n)):=⟨fun _=>by
 have hla:=dgs_len a.n 32
 have hbl:=beB_len a.n
 refine qE Tryz.func80 rfl Tryz.ntmps80 rfl (fun _ hs=>?_)
 repeat' first|refine Vz ?_|intro _
 refine ac_as 4 (Imp.nil (k:=1)) ?_
 refine ac_st (fun ok w h=>h.full 5 1 none 0) ?_
 refine ac_loop (α:=Nat × Value) (fun q=>[(3,.sl 1 (dI (dgs a.n 32)) none),(4,.sl 1 (((beB a.n).take (32 - q.1)).map u8A) (some q.2)),(5,int ((q.1:Int) - 1))]) (fun q=>[.tail 5 1 q.2]) (fun q=>q.1<=32) (fun q=>q.1) (32,.slice none 0 0) ⟨rfl,rfl,rfl,trivial⟩ (by repeat (first|exact List.nil_sublist _|exact List.Sublist.refl _|apply List.Sublist.cons_cons|apply List.Sublist.cons)) (Nat.le_refl _) ?_
 rintro⟨n,v⟩ hn
 dsimp only at hn ⊢
 rcases n with _|k
 ·rw [show 32 - 0=32 from rfl,List.take_of_length_le (by omega)]
  repeat' first|refine Zz ?_|intro _
  refine reE ?_
  rfl
 ·rw [show ((k + 1:Nat):Int) - 1=(k:Int) by omega]
  have hka:k < (dgs a.n 32).length:=by omega
  have ea:=dgs_get hka
  have hm:((beB a.n).take (32 - (k + 1))).length<=32:=by rw [List.length_take];omega
  have hm2:(((beB a.n).take (32 - (k + 1))).map u8A).length<=32:=by rw [llm];exact hm
  have e2:((beB a.n).take (32 - k)).map u8A=((beB a.n).take (32 - (k + 1))).map u8A++[u8A (UInt8.ofNat (dg a.n k))]:=by
   rw [show 32 - k=32 - (k + 1) + 1 by omega,beB_take (by omega),List.map_append,show 31 - (32 - (k + 1))=k by omega]
   rfl
  repeat' first|refine Zz ?_|intro _
  rw [ea,u8_wrap]
  refine al_append (fun v'=>?_)
  repeat' first|refine Vz ?_|intro _
  rw [<- e2]
  refine ae_round (k,v') ⟨rfl,rfl,rfl,trivial⟩ ?_ (by dsimp only;omega) (Nat.lt_succ_self k)
  repeat (first|exact List.nil_sublist _|exact List.Sublist.refl _|apply List.Sublist.cons_cons|apply List.Sublist.cons)⟩
theorem leN_lms {l:Bs}{i:Nat}:leN (l.take i) < 256 ^ i:=by
 have h:=leN_lt (l.take i)
 refine Nat.lt_of_lt_of_le h (Nat.pow_le_pow_right (by decide) ?_)
 rw [List.length_take]
 omega
theorem wid_set {n m i:Nat}{x:Nat}(hi:i < 4)(h:∀ j,j < 4->lm m j=if j=i then x else lm n j):[u6 (lm n 0),u6 (lm n 1),u6 (lm n 2),u6 (lm n 3)].set i (u6 x)=[u6 (lm m 0),u6 (lm m 1),u6 (lm m 2),u6 (lm m 3)]:=by
 have h0:=h 0 (by omega)
 have h1:=h 1 (by omega)
 have h2:=h 2 (by omega)
 have h3:=h 3 (by omega)
 rw [h0,h1,h2,h3]
 rcases i with _|_|_|_|i <;> first|rfl|omega
theorem put_lms {l:Bs}{i:Nat}(hi:i < l.length)(j:Nat):lm (leN (l.take (i + 1))) j=if j=i / 8 then lm (leN (l.take i)) (i / 8) + 256 ^ (i % 8) * l[i].toNat else lm (leN (l.take i)) j:=by
 rw [leN_take (List.getElem?_eq_getElem hi),lm_put leN_lms l[i].toNat_lt]
 split
 ·rename_i h;rw [h]
 ·rfl
set_option maxHeartbeats 2000000 in
instance fnNumber {l:Bs}{xs:List AV}{id:Option Value}[hx:DIs xs l]:Ans Tryz.prog GL 290 [.sl 1 xs id] (l.length=32\/l.length=33) (.tup [widA (wOf (leN l)),boo (wIs (leN l))]):=⟨fun hlen=>by
 have h:=hx.out
 subst h
 have hm:(dI l).length=l.length:=dI_len l
 have hbig:33=l.length->leN l=leN (l.take 32) + 256 ^ 32 * (l.getD 32 0).toNat:=fun h=>by
  have h1:=leN_take (List.getElem?_eq_getElem (show 32 < l.length by omega))
  rw [List.take_of_length_le (by omega)] at h1
  rw [h1,getD_in (by omega)]
 refine qE Tryz.func290 rfl Tryz.ntmps290 rfl (fun _ hs=>?_)
 repeat' first|refine Vz ?_|intro _
 rename_i g2 g4
 refine ac_asV (g:=g4) (v:=widN 0) (v':=widN (leN (l.take 0))) (fun ok w cs h=>h) ?_
 refine ac_loop (α:=Nat) (fun i=>[(0,.sl 1 (dI l) id),(2,ptr g2),(4,ptr g4),(5,int i)]) (fun i=>[.var g4 86 (widN (leN (l.take (min i 32)))),.var g2 86 (widN 0)])
  (fun i=>i<=l.length/\(i=33->l.getD 32 0=0)) (fun i=>l.length - i) 0 ⟨rfl,rfl,rfl,rfl,trivial⟩ slr ⟨Nat.zero_le _,fun h=>absurd h (by decide)⟩ ?_
 rintro i ⟨hi,h33⟩
 repeat' first|refine Vz ?_|intro _
 refine ac_cond (fun hlt=>?_) (fun hlt=>?_)
 ·have hil:i < l.length:=by omega
  repeat' first|refine Vz ?_|intro _
  by_cases h32:i=32
  ·subst h32
   have hl33:33=l.length:=by omega
   have hb:=hbig hl33
   repeat' first|refine Zz ?_|intro _
   refine ac_cond (fun h0=>?_) (fun h0=>?_)
   ·repeat' first|refine Vz ?_|intro _
    refine reE ?_
    have hc:1<=(l.getD 32 0).toNat:=by rw [getD_in hil];omega
    have hbb:¬ leN l < 115792089237316195423570985008687907853269984665640564039457584007913129639936:=by
     have h1:256 ^ 32 * 1<=256 ^ 32 * (l.getD 32 0).toNat:=Nat.mul_le_mul_left _ hc
     have h2:(256:Nat) ^ 32 * 1=115792089237316195423570985008687907853269984665640564039457584007913129639936:=by decide
     omega
    rw [wOf_big hbb,show wIs (leN l)=false from dZ hbb]
    rfl
   ·repeat' first|refine Zz ?_|intro _
    refine ae_round 33 ⟨rfl,rfl,rfl,rfl,trivial⟩ ?_ ⟨by omega,fun _=>by rw [getD_in hil];exact UInt8.toNat_inj.1 (by show _=0;omega)⟩ (by omega)
    exact sbl
  ·have hi32:i < 32:=by omega
   have hr:((i:Int) % 8)=((i % 8:Nat):Int):=by omega
   have hby:=l[i].toNat_lt
   have hps:=put_lms hil
   have htop:lm (leN (l.take i)) (i / 8) < 256 ^ (i % 8):=lm_top leN_lms
   have hset:=wid_set (n:=leN (l.take i)) (m:=leN (l.take (i + 1))) (x:=lm (leN (l.take i)) (i / 8) + 256 ^ (i % 8) * l[i].toNat) (show i / 8 < 4 by omega) (fun j _=>hps j)
   rw [Nat.min_eq_left (by omega)]
   repeat' first|refine Zz ?_|intro _
   apply obl_read [];exact rfl;exact rfl;kernel_rfl;intro _ _
   refine al_idxA (i / 8) ?_
   exact al_nil (ae_got rfl rfl)
   apply obl_read [0];exact rfl;exact rfl;kernel_rfl;intro _ _
   refine al_loadE (j:=i / 8) (wid_get (by omega)) ?_
   exact al_nil (ae_got rfl rfl)
   repeat' first|refine Yz ?_|intro _
   rw [hr]
   repeat' first|refine Yz ?_|intro _
   apply obl_read [];exact rfl;exact rfl;kernel_rfl;intro _ _
   refine al_shlB (i % 8) ?_
   exact al_nil (ae_got rfl rfl)
   apply obl_read [];exact rfl;exact rfl;kernel_rfl;intro _ _
   refine al_orP ?_ rfl rfl htop hby (by omega)
   exact al_nil (ae_got rfl rfl)
   repeat' first|refine Yz ?_|intro _
   apply obl_read [];exact rfl;exact rfl;kernel_rfl;intro _ _
   refine al_idxA (i / 8) ?_
   exact al_nil (ae_got rfl rfl)
   apply obl_writeN [0];exact rfl;exact rfl;kernel_rfl
   intro _ _
   refine al_storeE (ps:=[u6 (lm (leN (l.take i)) 0),u6 (lm (leN (l.take i)) 1),u6 (lm (leN (l.take i)) 2),u6 (lm (leN (l.take i)) 3)]) (j:=i / 8) (show i / 8 < 4 by omega) ?_
   exact al_nil (ae_gotN rfl)
   exact rfl
   exact rfl
   rw [hset]
   repeat' first|refine Yz ?_|intro _
   refine ae_round (i + 1) ⟨rfl,rfl,rfl,rfl,trivial⟩ ?_ ⟨hil,fun h=>absurd h (by omega)⟩ (by omega)
   rw [Nat.min_eq_left (by omega)]
   exact sbl
 ·obtain rfl:i=l.length:=by omega
  have hfin:leN (l.take (min l.length 32))=leN l:=by
   rcases hlen with h|h
   ·rw [Nat.min_eq_left (by omega),List.take_length]
   ·rw [Nat.min_eq_right (by omega),hbig h.symm,h33 h]
    rfl
  have hlt2:leN l < 115792089237316195423570985008687907853269984665640564039457584007913129639936:=by
   rw [<- hfin]
   refine Nat.lt_of_lt_of_le leN_lms ?_
   exact Nat.pow_le_pow_right (n:=256) (j:=32) (by decide) (by omega)
  rw [hfin]
  repeat' first|refine Vz ?_|intro _
  refine reE ?_
  rw [show wIs (leN l)=true from dT hlt2]
  show AV.tup [widN _,_]=.tup [widN _,_]
  rw [wOf_n hlt2]⟩
theorem dI_snoc (l:Bs)(c:UInt8):dI (l++[c])=dI l++[int (c.toNat:Int)]:=by
 unfold dI
 rw [List.map_append]
 rfl
set_option maxHeartbeats 2000000 in
instance fnRWFrom {s:Bs}:Ans Tryz.prog GL 357 [str s] (s.length<=1000000000) (.tup [widA (if s.length=32 then wOf (beN s) else wZ),int (if s.length=32 then 0 else 10)]):=⟨fun hl=>by
 refine qE Tryz.func357 rfl Tryz.ntmps357 rfl (fun _ hs=>?_)
 repeat' first|refine Vz ?_|intro _
 refine ac_cond (fun hne=>?_) (fun hne=>?_)
 ·have h32:¬ s.length=32:=by omega
  repeat' first|refine Vz ?_|intro _
  refine reE ?_
  rw [if_neg h32,if_neg h32]
  rfl
 have h32:s.length=32:=by omega
 repeat' first|refine Vz ?_|intro _
 rename_i g2
 refine ac_as 4 (Imp.nil (k:=1)) ?_
 refine ac_st (fun ok w h=>h.full 3 1 none 0) ?_
 refine ac_loop (α:=Nat × Value) (fun q=>[(0,str s),(2,ptr g2),(3,int 0),(4,.sl 1 (dI (s.reverse.take (32 - q.1))) (some q.2)),(5,int ((q.1:Int) - 1))]) (fun q=>[.tail 3 1 q.2,.var g2 86 (widN 0)]) (fun q=>q.1<=32) (fun q=>q.1) (32,.slice none 0 0) ⟨rfl,rfl,rfl,rfl,rfl,trivial⟩ (by repeat (first|exact List.nil_sublist _|exact List.Sublist.refl _|apply List.Sublist.cons_cons|apply List.Sublist.cons)) (Nat.le_refl _) ?_
 rintro⟨n,v⟩ hn
 dsimp only at hn ⊢
 rcases n with _|k
 ·rw [show 32 - 0=32 from rfl,List.take_of_length_le (by rw [List.length_reverse];omega)]
  have hrl:s.reverse.length=32\/s.reverse.length=33:=.inl (by rw [List.length_reverse];omega)
  repeat' first|refine Zz ?_|intro _
  refine reE ?_
  rw [if_pos h32,if_pos h32]
  rfl
 ·rw [show ((k + 1:Nat):Int) - 1=(k:Int) by omega]
  have hk:k < s.length:=by omega
  have hm:(s.reverse.take (32 - (k + 1))).length<=32:=by rw [List.length_take];omega
  have hm2:(dI (s.reverse.take (32 - (k + 1)))).length<=32:=by rw [dI_len];exact hm
  have e0:s.reverse[32 - (k + 1)]'(by rw [List.length_reverse];omega)=s[k]:=by
   rw [List.getElem_reverse]
   congr 1
   omega
  have e2:dI (s.reverse.take (32 - k))=dI (s.reverse.take (32 - (k + 1)))++[int (s[k].toNat:Int)]:=by
   rw [show 32 - k=32 - (k + 1) + 1 by omega,List.take_succ_eq_append_getElem (by rw [List.length_reverse];omega),dI_snoc,e0]
  repeat' first|refine Zz ?_|intro _
  have hby:=s[k].toNat_lt
  refine al_idxS k ?_ (List.getElem?_eq_getElem hk)
  repeat' first|refine Yz ?_|intro _
  refine al_append (fun v'=>?_)
  repeat' first|refine Vz ?_|intro _
  rw [<- e2]
  refine ae_round (k,v') ⟨rfl,rfl,rfl,rfl,rfl,trivial⟩ ?_ (by dsimp only;omega) (Nat.lt_succ_self k)
  repeat (first|exact List.nil_sublist _|exact List.Sublist.refl _|apply List.Sublist.cons_cons|apply List.Sublist.cons)⟩

abbrev RS:={σ:Bs × Bool // σ.1.length<=1000000000}
def sT (c most:Int)(σ:RS):RS:=⟨(rsT c most σ.1.1 σ.1.2,rbT c most σ.1.1 σ.1.2),Nat.le_trans (rsT_len c most σ.1.1 σ.1.2).1 σ.2⟩
def sI (c most:Int)(σ:RS):RS:=⟨(rsT c 8 σ.1.1 σ.1.2,riB c most σ.1.1 σ.1.2),Nat.le_trans (rsT_len c 8 σ.1.1 σ.1.2).1 σ.2⟩
def gT (c most:Int)(σ:RS):Bs:=rtT c most σ.1.1 σ.1.2
def gI (c most:Int)(σ:RS):Int:=riI c most σ.1.1 σ.1.2
def gZ (σ:RS):Int:=reE' σ.1.1 σ.1.2
def rdS (σ:RS):AV:=rdA σ.1.1 σ.1.2
theorem gT_len (c most:Int)(σ:RS):(gT c most σ).length<=1000000000:=Nat.le_trans (rsT_len c most σ.1.1 σ.1.2).2 σ.2
theorem gI_le {c most:Int}{σ:RS}(h:0<=most):0<=gI c most σ/\gI c most σ<=most:=by
 unfold gI riI
 split <;> omega
def xs0 (s:Bs):RS:=if h:s.length<=1000000000 then ⟨(s,false),h⟩ else ⟨([],true),by decide⟩
theorem xs0_eq {s:Bs}(h:s.length<=1000000000):rdA s false=rdS (xs0 s):=by
 unfold xs0
 rw [dif_pos h]
 rfl
def xs1 (σ:RS):RS:=sI 75 16 σ
def xs2 (σ:RS):RS:=sT 73 4000 (xs1 σ)
def xs3 (σ:RS):RS:=sT 79 4000 (xs2 σ)
def xs4 (σ:RS):RS:=sT 81 4000 (xs3 σ)
def xs5 (σ:RS):RS:=sT 82 4000 (xs4 σ)
def xs6 (σ:RS):RS:=sT 89 4000 (xs5 σ)
def xs7 (σ:RS):RS:=sI 69 1099511627776 (xs6 σ)
def xs8 (σ:RS):RS:=sT 99 4000 (xs7 σ)
def xs9 (σ:RS):RS:=sI 104 1099511627776 (xs8 σ)
def xs10 (σ:RS):RS:=sI 116 1099511627776 (xs9 σ)
def xs11 (σ:RS):RS:=sT 114 32 (xs10 σ)
def xs12 (σ:RS):RS:=sT 77 32 (xs11 σ)
def xs13 (σ:RS):RS:=sI 113 1099511627776 (xs12 σ)
def xs14 (σ:RS):RS:=sT 115 4000 (xs13 σ)
def xs15 (σ:RS):RS:=sT 107 4000 (xs14 σ)
def xs16 (σ:RS):RS:=sT 100 4000 (xs15 σ)
def xs17 (σ:RS):RS:=sT 97 32 (xs16 σ)
def xs18 (σ:RS):RS:=sT 102 4000 (xs17 σ)
def xs19 (σ:RS):RS:=sT 103 4000 (xs18 σ)
def xs20 (σ:RS):RS:=sI 117 1099511627776 (xs19 σ)
def xs21 (σ:RS):RS:=sI 118 1099511627776 (xs20 σ)
def xs22 (σ:RS):RS:=sT 65 4000 (xs21 σ)
def xs23 (σ:RS):RS:=sI 84 1099511627776 (xs22 σ)
def xs24 (σ:RS):RS:=sT 70 4000 (xs23 σ)
def xs25 (σ:RS):RS:=sT 71 4000 (xs24 σ)
def xRoot (σ:RS):Bs:=gT 114 32 (xs10 σ)
def xMac (σ:RS):Bs:=gT 77 32 (xs11 σ)
def xAmt (σ:RS):Bs:=gT 97 32 (xs16 σ)
def xPrf (σ:RS):Bs:=gT 70 4000 (xs23 σ)
def xGap (σ:RS):Bs:=gT 71 4000 (xs24 σ)
def wV (b:Bs):Wd:=if b.length=32 then wOf (beN b) else wZ
def txV (σ:RS):TxX:=
 ⟨gI 75 16 σ,gT 73 4000 (xs1 σ),gT 79 4000 (xs2 σ),gT 81 4000 (xs3 σ),gT 82 4000 (xs4 σ),gT 89 4000 (xs5 σ),gI 69 1099511627776 (xs6 σ),
  ⟨gT 99 4000 (xs7 σ),gI 104 1099511627776 (xs8 σ),gI 116 1099511627776 (xs9 σ),hOf (xRoot σ)⟩,hOf (xMac σ),
  ⟨gI 113 1099511627776 (xs12 σ),gT 115 4000 (xs13 σ),gT 107 4000 (xs14 σ),gT 100 4000 (xs15 σ),wV (xAmt σ),gT 102 4000 (xs17 σ),gT 103 4000 (xs18 σ),gI 117 1099511627776 (xs19 σ),gI 118 1099511627776 (xs20 σ)⟩,
  gT 65 4000 (xs21 σ),gI 84 1099511627776 (xs22 σ),rpdV (xPrf σ),rgdV (xGap σ)⟩
def txOk (σ:RS):Bool:=decide ((xRoot σ).length=32) && (decide ((xMac σ).length=32) && (decide ((xAmt σ).length=32) && (decide (rpdE (xPrf σ)=0) && (decide (rgdE (xGap σ)=0) && decide (gZ (xs25 σ)=0)))))
def zeroX:TxX:=⟨0,[],[],[],[],[],0,zeroHd,zeroH,zeroPk,[],0,zeroP,zeroG⟩
def rtxV (σ:RS):TxX:=if txOk σ=true then txV σ else zeroX
def rtxE (σ:RS):Int:=if txOk σ=true then 0 else 10
def txB (x:TxX):Bs:=
 tlvI 75 x.k++tlvT 73 x.i++tlvT 79 x.o++tlvT 81 x.p++tlvT 82 x.q++tlvT 89 x.y++tlvI 69 x.e++tlvT 99 x.h.c++tlvI 104 x.h.h++tlvI 116 x.h.t++tlvT 114 x.h.r.l++tlvT 77 x.m.l
 ++ tlvI 113 x.x.q++tlvT 115 x.x.s++tlvT 107 x.x.k++tlvT 100 x.x.d++tlvT 97 (beB x.x.a.n)++tlvT 102 x.x.f++tlvT 103 x.x.g++tlvI 117 x.x.h++tlvI 118 x.x.t
 ++ tlvT 65 x.a++tlvI 84 x.t++tlvT 70 (prfB x.f)++tlvT 71 (gapB x.g)

def ixS (s:Bs):Nat:=s.findIdx fun c=>decide (c=47)
theorem ixS_lt {s:Bs}:ixS s < s.length↔noSl s=false:=by
 unfold ixS noSl
 rw [List.findIdx_lt_length]
 constructor
 ·rintro⟨x,hx,h⟩
  rw [List.all_eq_false]
  exact⟨x,hx,by simpa using h⟩
 ·intro h
  rw [List.all_eq_false] at h
  obtain⟨x,hx,h⟩:=h
  exact⟨x,hx,by simpa using h⟩
def ixI (s:Bs):Int:=if ixS s < s.length then (ixS s:Int) else -1
theorem ix_lib (s:Bs):Lib.indexByte s 47=ixI s:=by
 induction s with
 | nil=>rfl
 | cons c s ih=>
  rw [Lib.indexByte,ih]
  unfold ixI ixS
  rw [List.findIdx_cons,List.length_cons]
  by_cases h:c=47
  ·subst h
   simp
  ·have h2:(c == 47)=false:=by simpa using h
   rw [h2,dZ h]
   simp only [Bool.false_eq_true,if_false,cond_false]
   generalize s.findIdx (fun c=>decide (c=47))=k
   by_cases hk:k < s.length
   ·have h3:(((k:Nat):Int) == -1)=false:=by
     rw [beq_eq_false_iff_ne]
     omega
    have h4:k + 1 < s.length + 1:=by omega
    simp only [if_pos hk,if_pos h4,h3]
    simp
   ·have h4:¬ k + 1 < s.length + 1:=by omega
    simp only [if_neg hk,if_neg h4]
    rfl
theorem run_ix (s:Bs)(w:World):(Extern.BytealgIndexByte.indexByte #[sv s,.int .u8 47]).run Tryz.prog w=.ok (.int .i64 (ixI s)) w:=by
 have h:=Lib.run_indexByteString (P:=Tryz.prog) ⟨s.toArray⟩ 47 w
 rw [show (47:Int).toNat.toUInt8=47 from rfl,ix_lib] at h
 exact h
theorem run_cnt (s:Bs)(w:World):(Extern.BytealgCount.count #[sv s,.int .u8 47]).run Tryz.prog w=.ok (.int .i64 (s.count 47:Nat)) w:=
 Lib.run_countString (P:=Tryz.prog) ⟨s.toArray⟩ 47 w
instance fnIxB {s:Bs}:Ans Tryz.prog GL 414 [str s,.lit (u8v 47)] True (int (ixI s)):=⟨fun _=>by
 refine qE Tryz.func414 rfl Tryz.ntmps414 rfl (fun _ hs=>?_)
 repeat' first|refine Vz ?_|intro _
 apply al_ext (v:=int (ixI s)) Tryz.func421;kernel_rfl;exact rfl;kernel_rfl;kernel_rfl;exact rfl;exact rfl;exact rfl
 ·rintro ok w cs _ ⟨u1,us,rfl,h1,u2,us2,rfl,h2,rfl⟩
  rw [RV0.lit h1,RV0.lit h2]
  exact⟨_,run_ix s _,RVl rfl⟩
 repeat' first|refine Vz ?_|intro _
 refine reE ?_
 rfl⟩
instance fnIxL {s:Bs}:Ans Tryz.prog GL 404 [str s,str [47]] True (int (ixI s)):=⟨fun _=>by
 refine qE Tryz.func404 rfl Tryz.ntmps404 rfl (fun _ hs=>?_)
 repeat' first|refine Zz ?_|intro _
 refine ac_cond (fun h=>?_) (fun h=>?_)
 ·repeat' first|refine Zz ?_|intro _
  refine reE ?_
  rw [<- h]
  rfl
 have h1:([47]:Bs).length=1:=rfl
 repeat' first|refine Yz ?_|intro _
 refine reE ?_
 rfl⟩
instance fnIx {s:Bs}:Ans Tryz.prog GL 371 [str s,str [47]] True (int (ixI s)):=⟨fun _=>by
 refine qE Tryz.func371 rfl Tryz.ntmps371 rfl (fun _ hs=>?_)
 repeat' first|refine Vz ?_|intro _
 refine reE ?_
 rfl⟩
instance fnContains {s:Bs}:Ans Tryz.prog GL 313 [str s,str [47]] True (boo (!noSl s)):=⟨fun _=>by
 refine qE Tryz.func313 rfl Tryz.ntmps313 rfl (fun _ hs=>?_)
 repeat' first|refine Vz ?_|intro _
 refine reE ?_
 have h:decide (0<=ixI s)=!noSl s:=by
  unfold ixI
  by_cases h:ixS s < s.length
  ·rw [if_pos h,ixS_lt.1 h]
   exact dT (by omega)
  ·rw [if_neg h]
   have hn:noSl s=true:=by
    cases hh:noSl s
    ·exact absurd (ixS_lt.2 hh) h
    ·rfl
   rw [hn]
   rfl
 show boo _=_
 rw [h]⟩
instance fnCount {s:Bs}:Ans Tryz.prog GL 311 [str s,str [47]] True (int (s.count 47:Nat)):=⟨fun _=>by
 have h1:([47]:Bs).length=1:=rfl
 refine qE Tryz.func311 rfl Tryz.ntmps311 rfl (fun _ hs=>?_)
 repeat' first|refine Yz ?_|intro _
 apply al_ext (v:=int (s.count 47:Nat)) Tryz.func370;kernel_rfl;exact rfl;kernel_rfl;kernel_rfl;exact rfl;exact rfl;exact rfl
 ·rintro ok w cs _ ⟨u1,us,rfl,h1,u2,us2,rfl,h2,rfl⟩
  rw [RV0.lit h1,RV0.lit h2]
  exact⟨_,run_cnt s _,RVl rfl⟩
 repeat' first|refine Zz ?_|intro _
 refine reE ?_
 rfl⟩
end Go.Proofs.YtndhpgclmgpmoaaGreatDoor
