/- the program's reader, walked: lists -/
import Derived.Test.YtlkkekpcofjbeaaGreatDoorA19
import Derived.Test.YtlkkekpcofjbeaaGreatDoorA22
import Derived.Test.YtlkkekpcofjbeaaGreatDoorA23
import Derived.Test.YtlkkekpcofjbeaaGreatDoorA24
namespace Av
open Go Go.RowKit Tw
def leN:Bs->Nat
 | []=>0
 | c::l=>c.toNat + 256 * leN l
def dg (n i:Nat):Nat:=n / 256 ^ i % 256
theorem dg_lt (n i:Nat):dg n i < 256:=Nat.mod_lt _ (by decide)
def dgs (n k:Nat):Bs:=(List.range k).map fun i=>UInt8.ofNat (dg n i)
theorem dgs_len (n k:Nat):(dgs n k).length=k:=by simp [dgs]
theorem dgs_at {n k i:Nat}(h:i < k):(dgs n k)[i]?=some (UInt8.ofNat (dg n i)):=by simp [dgs,h]
theorem dgs_succ (n k:Nat):dgs n (k + 1)=dgs n k++[UInt8.ofNat (dg n k)]:=by simp [dgs,List.range_succ]
theorem pos256 (i:Nat):0 < 256 ^ i:=Nat.pow_pos (by decide)
theorem leN_lt:∀ l:Bs,leN l < 256 ^ l.length
 | []=>by simp [leN]
 | c::l=>by
  have:=leN_lt l
  have:=c.toNat_lt
  rw [leN,List.length_cons,Nat.pow_succ]
  omega
theorem leN_append:∀ a b:Bs,leN (a++b)=leN a + 256 ^ a.length * leN b
 | [],b=>by simp [leN]
 | c::a,b=>by
  rw [List.cons_append,leN,leN,leN_append a b,List.length_cons,Nat.pow_succ,Nat.mul_add,Nat.mul_comm (256 ^ a.length) 256,Nat.mul_assoc]
  omega
theorem leN_take {l:Bs}{i:Nat}{c:UInt8}(h:l[i]?=some c):leN (l.take (i + 1))=leN (l.take i) + 256 ^ i * c.toNat:=by
 have hi:i < l.length:=by
  rcases Nat.lt_or_ge i l.length with h1|h1
  ·exact h1
  ·rw [List.getElem?_eq_none h1] at h;cases h
 rw [List.getElem?_eq_getElem hi] at h
 injection h with h
 rw [List.take_succ_eq_append_getElem hi,leN_append,List.length_take,Nat.min_eq_left (by omega),h]
 simp [leN]
theorem ofNat_dg (n i:Nat):(UInt8.ofNat (dg n i)).toNat=dg n i:=by
 have:=dg_lt n i
 rw [UInt8.toNat_ofNat']
 exact Nat.mod_eq_of_lt this
theorem mod_succ (n k:Nat):n % 256 ^ (k + 1)=n % 256 ^ k + 256 ^ k * dg n k:=by
 rw [Nat.pow_succ,Nat.mod_mul]
 rfl
theorem leN_dgs (n:Nat):∀ k,leN (dgs n k)=n % 256 ^ k
 | 0=>by simp [dgs,leN,Nat.mod_one]
 | k + 1=>by
  rw [dgs_succ,leN_append,leN_dgs n k,dgs_len,mod_succ,leN,leN,ofNat_dg,Nat.mul_zero,Nat.add_zero]
theorem leN_snoc (n k:Nat)(c:UInt8):leN (dgs n k++[c])=n % 256 ^ k + 256 ^ k * c.toNat:=by
 rw [leN_append,leN_dgs,dgs_len]
 simp [leN]
def beB (n:Nat):Bs:=(dgs n 32).reverse
def beN (s:Bs):Nat:=leN s.reverse
theorem beB_len (n:Nat):(beB n).length=32:=by simp [beB,dgs_len]
theorem beN_lt {s:Bs}(h:s.length=32):beN s < 115792089237316195423570985008687907853269984665640564039457584007913129639936:=by
 have:=leN_lt s.reverse
 rw [List.length_reverse,h] at this
 exact this
def cry (a b i:Nat):Nat:=(a % 256 ^ i + b % 256 ^ i) / 256 ^ i
theorem cry0 (a b:Nat):cry a b 0=0:=by simp [cry,Nat.mod_one]
theorem add_dg (a b i:Nat):cry a b i<=1/\(dg a i + dg b i + cry a b i) % 256=dg (a + b) i/\(dg a i + dg b i + cry a b i) / 256=cry a b (i + 1):=by
 have hp:=pos256 i
 have e1:cry a b (i + 1)=(dg a i + dg b i + cry a b i) / 256:=by
  unfold cry
  rw [mod_succ,mod_succ,Nat.pow_succ,<- Nat.div_div_eq_div_mul]
  congr 1
  rw [show a % 256 ^ i + 256 ^ i * dg a i + (b % 256 ^ i + 256 ^ i * dg b i)=(a % 256 ^ i + b % 256 ^ i) + 256 ^ i * (dg a i + dg b i) by rw [Nat.mul_add];omega,Nat.add_mul_div_left _ _ hp]
  omega
 have e2:(a + b) / 256 ^ i=a / 256 ^ i + b / 256 ^ i + cry a b i:=by
  have ha:=Nat.div_add_mod a (256 ^ i)
  have hb:=Nat.div_add_mod b (256 ^ i)
  conv=>lhs;rw [<- ha,<- hb]
  rw [show 256 ^ i * (a / 256 ^ i) + a % 256 ^ i + (256 ^ i * (b / 256 ^ i) + b % 256 ^ i)=(a % 256 ^ i + b % 256 ^ i) + 256 ^ i * (a / 256 ^ i + b / 256 ^ i) by rw [Nat.mul_add];omega,Nat.add_mul_div_left _ _ hp]
  unfold cry
  omega
 refine⟨?_,?_,e1.symm⟩
 ·unfold cry
  have h1:=Nat.mod_lt a hp
  have h2:=Nat.mod_lt b hp
  have:(a % 256 ^ i + b % 256 ^ i) / 256 ^ i < 2:=by
   rw [Nat.div_lt_iff_lt_mul hp]
   omega
  omega
 ·unfold dg
  rw [e2]
  omega
theorem cry32 (a b:Wd):cry a.n b.n 32=(a.n + b.n) / 256 ^ 32:=by
 unfold cry
 rw [Nat.mod_eq_of_lt a.lt,Nat.mod_eq_of_lt b.lt]
theorem add_all (a b:Wd):leN (dgs (a.n + b.n) 32++[UInt8.ofNat (cry a.n b.n 32)])=a.n + b.n:=by
 have h1:=(add_dg a.n b.n 32).1
 have h2:cry a.n b.n 32 < 2 ^ 8:=by omega
 rw [leN_snoc,UInt8.toNat_ofNat',Nat.mod_eq_of_lt h2,cry32]
 exact Nat.mod_add_div _ _
theorem B_pow (i:Nat):(18446744073709551616:Nat) ^ i=256 ^ (8 * i):=by rw [Nat.pow_mul]
theorem lm_dg (n i:Nat):lm n (i / 8) / 256 ^ (i % 8) % 256=dg n i:=by
 unfold lm dg
 have hr:i % 8 < 8:=Nat.mod_lt _ (by decide)
 have e1:(18446744073709551616:Nat)=256 ^ (i % 8) * (256 * 256 ^ (7 - i % 8)):=by
  rw [<- Nat.pow_succ',<- Nat.pow_add,show i % 8 + (7 - i % 8 + 1)=8 by omega]
 conv=>lhs;rw [e1]
 rw [Nat.mod_mul_right_div_self,Nat.mod_mul_right_mod,<- e1,Nat.div_div_eq_div_mul,B_pow,<- Nat.pow_add,show 8 * (i / 8) + i % 8=i by omega]
theorem lm_put {m d i j:Nat}(hm:m < 256 ^ i)(hd:d < 256):lm (m + 256 ^ i * d) j=if j=i / 8 then lm m j + 256 ^ (i % 8) * d else lm m j:=by
 have hr:i % 8 < 8:=Nat.mod_lt _ (by decide)
 have hi:256 ^ i=18446744073709551616 ^ (i / 8) * 256 ^ (i % 8):=by rw [B_pow,<- Nat.pow_add,show 8 * (i / 8) + i % 8=i by omega]
 have hB:256 ^ (i % 8) * 256<=18446744073709551616:=by
  rw [<- Nat.pow_succ,show (18446744073709551616:Nat)=256 ^ 8 from rfl]
  exact Nat.pow_le_pow_right (by decide) (by omega)
 have hX:256 ^ (i % 8) * d + 256 ^ (i % 8)<=256 ^ (i % 8) * 256:=by
  rw [show 256 ^ (i % 8) * d + 256 ^ (i % 8)=256 ^ (i % 8) * (d + 1) by rw [Nat.mul_add,Nat.mul_one]]
  exact Nat.mul_le_mul_left _ (by omega)
 generalize hq:i / 8=q at *
 generalize hR:256 ^ (i % 8)=R at *
 rw [hi] at hm ⊢
 unfold lm
 have hPq:0 < 18446744073709551616 ^ q:=Nat.pow_pos (by decide)
 rcases Nat.lt_trichotomy j q with h|h|h
 ·rw [if_neg (by omega),show q=j + (q - j - 1 + 1) by omega,Nat.pow_add,Nat.pow_succ,Nat.mul_assoc,Nat.mul_assoc,Nat.add_mul_div_left _ _ (Nat.pow_pos (by decide))]
  rw [show 18446744073709551616 ^ (q - j - 1) * 18446744073709551616 * (R * d)=18446744073709551616 * (18446744073709551616 ^ (q - j - 1) * (R * d)) by rw [Nat.mul_comm (18446744073709551616 ^ (q - j - 1)) 18446744073709551616,Nat.mul_assoc],Nat.add_mul_mod_self_left]
 ·subst h
  have hmq:m / 18446744073709551616 ^ j < R:=by
   rw [Nat.div_lt_iff_lt_mul hPq,Nat.mul_comm]
   exact hm
  rw [if_pos rfl,Nat.mul_assoc,Nat.add_mul_div_left _ _ hPq,Nat.mod_eq_of_lt (by omega),Nat.mod_eq_of_lt (by omega)]
 ·have hlt:m + 18446744073709551616 ^ q * R * d < 18446744073709551616 ^ j:=by
   have e1:18446744073709551616 ^ q * R * d + 18446744073709551616 ^ q * R<=18446744073709551616 ^ q * 18446744073709551616:=by
    rw [Nat.mul_assoc,<- Nat.mul_add]
    exact Nat.mul_le_mul_left _ (by omega)
   have e2:18446744073709551616 ^ q * 18446744073709551616<=18446744073709551616 ^ j:=by
    rw [<- Nat.pow_succ]
    exact Nat.pow_le_pow_right (by decide) (by omega)
   omega
  rw [if_neg (by omega),Nat.div_eq_of_lt hlt,Nat.div_eq_of_lt (by omega)]
theorem lm_top {m i:Nat}(hm:m < 256 ^ i):lm m (i / 8) < 256 ^ (i % 8):=by
 have hi:256 ^ i=18446744073709551616 ^ (i / 8) * 256 ^ (i % 8):=by rw [B_pow,<- Nat.pow_add,show 8 * (i / 8) + i % 8=i by omega]
 unfold lm
 refine Nat.lt_of_le_of_lt (Nat.mod_le _ _) ?_
 rw [Nat.div_lt_iff_lt_mul (Nat.pow_pos (by decide)),Nat.mul_comm,<- hi]
 exact hm
theorem or_put {x d r:Nat}(hx:x < 256 ^ r):x ||| (256 ^ r * d)=x + 256 ^ r * d:=by
 have e:(256:Nat) ^ r=2 ^ (8 * r):=by rw [Nat.pow_mul]
 rw [e] at hx ⊢
 rw [Nat.or_comm,<- Nat.two_pow_add_eq_or_of_lt hx d,Nat.add_comm]
end Av

namespace Go.Proofs.YtlkkekpcofjbeaaGreatDoor
open Go Go.RowKit Tw Av
def len3 (a b c:UInt8):Nat:=(a.toNat * 256 + b.toNat) * 256 + c.toNat
theorem len3_lt (a b c:UInt8):len3 a b c < 16777216:=by
 have h1:=a.toNat_lt
 have h2:=b.toNat_lt
 have h3:=c.toNat_lt
 unfold len3
 omega
def cutT (c most:Int)(b:Bool):Bs->Option (Bs × Bs)
 | s0::s1::s2::s3::r=>if b=false/\(s0.toNat:Int)=c/\(len3 s1 s2 s3:Int)<=most/\len3 s1 s2 s3<=r.length then some (r.take (len3 s1 s2 s3),r.drop (len3 s1 s2 s3)) else none
 | _=>none
def rtT (c most:Int)(s:Bs)(b:Bool):Bs:=((cutT c most b s).map (·.1)).getD []
def rsT (c most:Int)(s:Bs)(b:Bool):Bs:=((cutT c most b s).map (·.2)).getD s
def rbT (c most:Int)(s:Bs)(b:Bool):Bool:=(cutT c most b s).isNone
def numOf (l:Bs):Nat:=l.foldl (fun n c=>n * 256 + c.toNat) 0
def lead0 (l:Bs):Bool:=decide (l.head?=some 0)
def rnN (c:Int)(s:Bs)(b:Bool):Nat:=if lead0 (rtT c 8 s b)=true then 0 else numOf (rtT c 8 s b)
def rnB (c:Int)(s:Bs)(b:Bool):Bool:=rbT c 8 s b || lead0 (rtT c 8 s b)
def riI (c most:Int)(s:Bs)(b:Bool):Int:=if most < (rnN c s b:Int) then 0 else rnN c s b
def riB (c most:Int)(s:Bs)(b:Bool):Bool:=rnB c s b || decide (most < (rnN c s b:Int))
def bods (c most:Int):Nat->Bs->Bool->List Bs × Bool
 | 0,_,b=>([],b)
 | f + 1,s,b=>if b=true\/s=[] then ([],b) else (rtT c most s b::(bods c most f (rsT c most s b) (rbT c most s b)).1,(bods c most f (rsT c most s b) (rbT c most s b)).2)
def allX (c most:Int)(x:Bs):List Bs × Bool:=bods c most (x.length + 1) x false
def badA (b1:Bool)(r:List Bs × Bool)(many:Int):Bool:=b1 || (r.2 || decide (many < (r.1.length:Int)))
def outA (b1:Bool)(r:List Bs × Bool)(many:Int):List Bs:=if badA b1 r many=true then [] else r.1
def raB (c many most:Int)(s:Bs)(b:Bool):Bool:=badA (rbT c 16777215 s b) (allX c most (rtT c 16777215 s b)) many
def raL (c many most:Int)(s:Bs)(b:Bool):List Bs:=outA (rbT c 16777215 s b) (allX c most (rtT c 16777215 s b)) many
def reE' (s:Bs)(b:Bool):Int:=if b=true\/s≠[] then 10 else 0
abbrev rdA (s:Bs)(b:Bool):AV:=.agg 2 [str s,boo b]
theorem rsT_len (c most:Int)(s:Bs)(b:Bool):(rsT c most s b).length<=s.length/\(rtT c most s b).length<=s.length:=by
 unfold rsT rtT cutT
 split
 ·split
  ·simp
   omega
  ·simp
 ·simp
theorem rtT_len (c most:Int)(s:Bs)(b:Bool):(rtT c most s b).length < 16777216/\(0<=most->((rtT c most s b).length:Int)<=most):=by
 unfold rtT cutT
 split
 ·rename_i s0 s1 s2 s3 r
  have:=len3_lt s1 s2 s3
  split
  ·rename_i h
   simp
   omega
  ·simp
 ·simp
theorem rsT_dec {c most:Int}{s:Bs}{b:Bool}(h:rbT c most s b=false):(rsT c most s b).length < s.length:=by
 unfold rbT rsT cutT at *
 split at h
 ·split
  ·simp
   omega
  ·rename_i h1
   rw [if_neg h1] at h
   simp at h
 ·simp at h
theorem rbT_bad (c most:Int)(s:Bs):cutT c most true s=none:=by
 unfold cutT
 split
 ·rw [if_neg (by simp)]
 ·rfl
theorem numOf_snoc (l:Bs)(c:UInt8):numOf (l++[c])=numOf l * 256 + c.toNat:=by simp [numOf]
theorem numOf_lt:∀ (n:Nat) (l:Bs),l.length=n->numOf l < 256 ^ n
 | 0,l,h=>by
  rw [List.eq_nil_of_length_eq_zero h]
  decide
 | n + 1,l,h=>by
  have hne:l≠[]:=by rintro rfl;simp at h
  rw [<- List.dropLast_concat_getLast hne,numOf_snoc]
  have h1:=numOf_lt n l.dropLast (by simp [h])
  have h2:=(l.getLast hne).toNat_lt
  rw [Nat.pow_succ]
  omega
theorem numOf_take {l:Bs}{i:Nat}(h:i < l.length):numOf (l.take (i + 1))=numOf (l.take i) * 256 + l[i].toNat:=by
 rw [List.take_succ_eq_append_getElem h,numOf_snoc]
theorem numOf_small {l:Bs}(h:l.length<=8):numOf l < 18446744073709551616:=by
 have h1:=numOf_lt _ l rfl
 have h2:256 ^ l.length<=256 ^ 8:=Nat.pow_le_pow_right (by decide) h
 omega
theorem lead0_cons (a:UInt8)(l:Bs):lead0 (a::l)=decide (a=0):=by simp [lead0]
theorem numOf_zero:∀ (n:Nat) (l:Bs),l.length=n->lead0 l=false->numOf l=0->l=[]
 | 0,l,h,_,_=>List.eq_nil_of_length_eq_zero h
 | n + 1,l,h,h1,h2=>by
  have hne:l≠[]:=by rintro rfl;simp at h
  rw [<- List.dropLast_concat_getLast hne,numOf_snoc] at h2
  rw [<- List.dropLast_concat_getLast hne] at h1
  have h3:numOf l.dropLast=0:=by omega
  have h4:(l.getLast hne).toNat=0:=by omega
  have h5:l.getLast hne=0:=UInt8.toNat.inj h4
  cases hd:l.dropLast with
  | nil=>
   rw [hd,h5] at h1
   simp [lead0] at h1
  | cons a r=>
   have h6:=numOf_zero n l.dropLast (by simp [h]) (by rw [hd];rw [hd] at h1;simpa [lead0] using h1) h3
   rw [hd] at h6
   cases h6
theorem digits_of:∀ (f:Nat) (l:Bs),l.length<=f->lead0 l=false->digitsF f (numOf l)=l
 | 0,l,h,_=>by
  rw [List.eq_nil_of_length_eq_zero (by omega:l.length=0)]
  rfl
 | f + 1,l,h,h1=>by
  by_cases hne:l=[]
  ·subst hne
   rfl
  ·have hnz:numOf l≠0:=fun h0=>hne (numOf_zero _ l rfl h1 h0)
   have e:=List.dropLast_concat_getLast hne
   have h2:=(l.getLast hne).toNat_lt
   have e1:numOf l=numOf l.dropLast * 256 + (l.getLast hne).toNat:=by rw [<- numOf_snoc,e]
   rw [digitsF,if_neg hnz,show numOf l / 256=numOf l.dropLast by omega]
   rw [digits_of f l.dropLast (by simp;omega) (by
    cases hd:l.dropLast with
    | nil=>rfl
    | cons a r=>rw [<- e,hd] at h1;simpa [lead0] using h1)]
   have h3:UInt8.ofNat (numOf l)=l.getLast hne:=by
    apply UInt8.toNat.inj
    rw [UInt8.toNat_ofNat',e1]
    omega
   rw [h3,e]
theorem digits_lead:∀ (f n:Nat),n < 256 ^ f->lead0 (digitsF f n)=false
 | 0,n,_=>rfl
 | f + 1,n,h=>by
  rw [digitsF]
  split
  ·rfl
  ·rename_i hn
   have h1:=digits_lead f (n / 256) (by rw [Nat.pow_succ] at h;omega)
   cases hd:digitsF f (n / 256) with
   | nil=>
    have h2:n / 256=0:=by
     cases f with
     | zero=>simp at h;omega
     | succ f=>
      rw [digitsF] at hd
      split at hd
      ·assumption
      ·simp at hd
    rw [List.nil_append,lead0_cons]
    refine dZ fun h0=>hn ?_
    have:=congrArg UInt8.toNat h0
    rw [UInt8.toNat_ofNat'] at this
    simp at this
    omega
   | cons a r=>
    rw [hd] at h1
    rw [List.cons_append,lead0_cons]
    rw [lead0_cons] at h1
    exact h1
theorem digits_num {l:Bs}(h:l.length<=8):(digits (numOf l)=l)↔lead0 l=false:=by
 constructor
 ·intro e
  rw [<- e]
  exact digits_lead 8 _ (by have:=numOf_small h;simpa using this)
 ·intro h1
  exact digits_of 8 l h h1

structure Sta where
 h:Int
 t:Int
 r:Hsh
deriving DecidableEq
structure Hdr where
 c:Bs
 h:Int
 t:Int
 r:Hsh
deriving DecidableEq
structure Cli where
 c:Bs
 k:Bs
 p:Int
 f:Bool
 l:List Sta
deriving DecidableEq
abbrev staA (x:Sta):AV:=.agg 34 [int x.h,int x.t,hA x.r]
abbrev hdrA (x:Hdr):AV:=.agg 35 [str x.c,int x.h,int x.t,hA x.r]
abbrev cliA (x:Cli):AV:=.agg 5 [str x.c,str x.k,int x.p,boo x.f,.sl 34 (x.l.map staA) none]
class Stas (xs:List AV)(l:outParam (List Sta)):Prop where
 out:xs=l.map staA
instance : Stas [] [] := ⟨rfl⟩
instance {a b:Int}{r:Hsh}{xs:List AV}{l:List Sta}[h:Stas xs l]:Stas (.agg 34 [int a,int b,hA r]::xs) (⟨a,b,r⟩::l):=⟨by rw [h.out];rfl⟩
instance {l:List Sta}:Stas (l.map staA) l:=⟨rfl⟩
instance {xs:List AV}{l:List Sta}{i:Nat}[h:Stas xs l]:Stas (xs.take i) (l.take i):=⟨by rw [h.out,List.map_take]⟩
instance {xs:List AV}{l:List Sta}{i:Nat}[h:Stas xs l]:Stas (xs.drop i) (l.drop i):=⟨by rw [h.out,List.map_drop]⟩
instance {xs ys:List AV}{l k:List Sta}[h:Stas xs l][g:Stas ys k]:Stas (xs++ys) (l++k):=⟨by rw [h.out,g.out,List.map_append]⟩
def zeroS:Sta:=⟨0,0,zeroH⟩
def zeroC:Cli:=⟨[],[],0,false,[]⟩
def stOf (x:Hdr):Sta:=⟨x.h,x.t,x.r⟩
def hdOf (c:Bs)(s:Sta):Hdr:=⟨c,s.h,s.t,s.r⟩
def chkH (x:Hdr):Bool:=decide (1<=x.c.length/\x.c.length<=32/\1<=x.h/\x.h<=1099511627776/\0<=x.t/\x.t<=1099511627776)
def hdrB (x:Hdr):Bs:=tlvT 99 x.c++tlvI 104 x.h++tlvI 116 x.t++tlvT 114 x.r.l
def keyB (k:Bs):Bs:=copyB (zeros 64) (if 64 < k.length then (shaH k).l else k)
def xorB (c:UInt8)(l:Bs):Bs:=l.map (· ^^^ c)
def sealH (k s:Bs):Hsh:=shaH (xorB 92 (keyB k)++(shaH (xorB 54 (keyB k)++s)).l)
def sealOf (k:Bs)(x:Hdr):Hsh:=sealH k (hdrB x)
def fol (a b:Sta):Bool:=decide (a.h < b.h/\a.t<=b.t)
def mayAt (c:Bs)(l:List Sta)(i:Nat):Bool:=chkH (hdOf c (l.getD i zeroS)) && (decide (i=0) || fol (l.getD (i - 1) zeroS) (l.getD i zeroS))
def mayC (x:Cli):Bool:=decide (x.k.length<=64/\1<=x.p/\x.p<=1099511627776/\1<=x.l.length/\x.l.length<=32) && (List.range x.l.length).all (mayAt x.c x.l)
def newC (k:Bs)(p:Int)(x:Hdr):Cli:=⟨x.c,k,p,false,[stOf x]⟩
def newE (k:Bs)(p:Int)(x:Hdr):Int:=if mayC (newC k p x)=true then 0 else 1
def newR (k:Bs)(p:Int)(x:Hdr):Cli:=if mayC (newC k p x)=true then newC k p x else zeroC
def latC (l:List Sta):Sta:=l.getLastD zeroS
def actC (x:Cli)(now:Int):Bool:=!x.f && decide (now < (latC x.l).t + x.p)
def atI (l:List Sta)(h:Int):Nat:=l.findIdx fun s=>decide (h<=s.h)
def atIs (l:List Sta)(h:Int):Bool:=decide (atI l h < l.length/\(l.getD (atI l h) zeroS).h=h)
def findC (l:List Sta)(h:Int):Option Sta:=if atIs l h=true then some (l.getD (atI l h) zeroS) else none
def badAt (l:List Sta)(s:Sta)(i:Nat):Bool:=(decide (0 < i) && !fol (l.getD (i - 1) zeroS) s) || (decide (i < l.length) && !fol s (l.getD i zeroS))
def frz (x:Cli):Cli:={ x with f:=true }
def insS (l:List Sta)(s:Sta):List Sta:=(l.take (atI l s.h)++s::l.drop (atI l s.h)).drop (l.length + 1 - 32)
def putC (x:Cli)(s:Sta):Cli:=
 if atIs x.l s.h=true/\x.l.getD (atI x.l s.h) zeroS=s then x
 else if atIs x.l s.h=true\/badAt x.l s (atI x.l s.h)=true then frz x
 else { x with l:=insS x.l s }
def updE (x:Cli)(h:Hdr)(mac:Hsh)(now:Int):Int:=
 if actC x now=false then 19 else if chkH h=false\/h.c≠x.c then 1 else if sealOf x.k h≠mac then 18 else 0
def updC (x:Cli)(h:Hdr)(mac:Hsh)(now:Int):Cli:=if updE x h mac now=0 then putC x (stOf h) else zeroC
def hits (s x:Sta):Bool:=decide ((x.h < s.h/\s.t < x.t)\/(s.h < x.h/\x.t < s.t))
def Rise (l:List Sta):Prop:=l.Pairwise fun a b=>a.h < b.h/\a.t<=b.t
theorem atI_le (l:List Sta)(h:Int):atI l h<=l.length:=List.findIdx_le_length
attribute [irreducible] chkH fol atIs badAt mayC actC hits

def noSl (s:Bs):Bool:=s.all fun c=>decide (c≠47)
def partB (s:Bs):Bool:=noSl s && decide (1<=s.length/\s.length<=32)
def splS:Bs->List Bs
 | []=>[[]]
 | c::s=>if c=47 then []::splS s else (c::(splS s).headD [])::(splS s).tail
def denB (s:Bs):Bool:=decide (s.length<=200) && ((splS s).all partB && decide ((splS s).length<=5))
def hopN (s:Bs):Nat:=if denB s=true then s.count 47 else 0
def pre12 (c d:Bs):Bool:=decide (d.take (c.length + 1)=c++[47])
def retB (c d:Bs):Bool:=pre12 c d && denB (d.drop (c.length + 1))
def retT (c d:Bs):Bs:=if retB c d=true then d.drop (c.length + 1) else []
def nameB (s:Bs):Bool:=decide (1<=s.length/\s.length<=64)
def dnmB (s:Bs):Bool:=decide (1<=s.length/\s.length<=200)
def balK (a d:Bs):Bs:=[66]++tlvT 97 a++tlvT 100 d
def totK (d:Bs):Bs:=[83]++tlvT 100 d
def getW (d:List Ent)(k:Bs):Wd:=if (valE d k).length=32 then wOf (beN (valE d k)) else wZ
def moreR (k:Bs)(n:Wd)(d:List Ent):List Ent × Int:=if wIs ((getW d k).n + n.n)=true then putR d k (beB ((getW d k).n + n.n)) else ([],17)
def lessR (k:Bs)(n:Wd)(d:List Ent):List Ent × Int:=if (getW d k).n < n.n then ([],16) else if (getW d k).n=n.n then (drpL d k,0) else putR d k (beB ((getW d k).n - n.n))
def thenR (a b:List Ent->List Ent × Int)(d:List Ent):List Ent × Int:=if (a d).2=0 then b (a d).1 else a d
def mintR (d:List Ent)(a c:Bs)(n:Wd):List Ent × Int:=if nameB a=false\/dnmB c=false\/n.n=0 then ([],1) else if wIs ((getW d (balK a c)).n + n.n)=false then ([],17) else thenR (moreR (totK c) n) (moreR (balK a c) n) d
def burnR (d:List Ent)(a c:Bs)(n:Wd):List Ent × Int:=if nameB a=false\/dnmB c=false\/n.n=0 then ([],1) else thenR (lessR (totK c) n) (lessR (balK a c) n) d
def moveR (d:List Ent)(a b c:Bs)(n:Wd):List Ent × Int:=if nameB a=false\/nameB b=false\/dnmB c=false\/n.n=0 then ([],1)
 else if a=b/\(thenR (lessR (balK a c) n) (moreR (balK b c) n) d).2≠16 then (d,0) else thenR (lessR (balK a c) n) (moreR (balK b c) n) d
def kyO (k i:Bs):Bs:=k++tlvT 105 i
def kyW (k i:Bs)(n:Int):Bs:=kyO k i++tlvI 113 n
def knE (s:Bs):Int:=reE' (rsT 110 8 s false) (riB 110 1099511627776 s false)
def knV (s:Bs):Int:=if knE s=0 then riI 110 1099511627776 s false else 0
structure EndX where
 s:Int
 o:Bs
 q:Bs
 p:Bs
deriving DecidableEq
abbrev endA (x:EndX):AV:=.agg 4 [int x.s,str x.o,str x.q,str x.p]
def zeroE:EndX:=⟨0,[],[],[]⟩
def chkE (x:EndX):Bool:=decide (1<=x.s/\x.s<=4) && (partB x.o && (partB x.q && if x.s=1 then decide (x.p=[]) else partB x.p))
def isE (x:EndX)(s:Int):Bool:=decide (x.s=s) && chkE x
def initE (o q:Bs):EndX × Int:=if partB o=true/\partB q=true then (⟨1,o,q,[]⟩,0) else (zeroE,1)
def tryE (o p:Bs)(t:EndX):EndX × Int:=if partB o=false\/partB p=false then (zeroE,1) else if isE t 1=false\/t.q≠o then (zeroE,13) else (⟨2,o,t.o,p⟩,0)
def meanE (x t:EndX)(i:Bs):Bool:=decide (t.o=x.q/\t.q=x.o/\t.p=i)
def openE (x:EndX)(a:Int)(i p:Bs)(t:EndX)(b:Int):EndX × Int:=if isE x a=true/\isE t b=true/\meanE x t i=true then (⟨3,x.o,x.q,p⟩,0) else (zeroE,13)
def ackE (x:EndX)(i p:Bs)(t:EndX):EndX × Int:=if partB i=false\/partB p=false then (zeroE,1) else openE x 1 i p t 2
def cnfE (x:EndX)(i:Bs)(t:EndX):EndX × Int:=openE x 2 i x.p t 3
def enxB (x:EndX):Bs:=tlvI 115 x.s++tlvT 111 x.o++tlvT 113 x.q++tlvT 112 x.p
def reS1 (s:Bs):Bs:=rsT 115 8 s false
def reB1 (s:Bs):Bool:=riB 115 4 s false
def reS2 (s:Bs):Bs:=rsT 111 32 (reS1 s) (reB1 s)
def reB2 (s:Bs):Bool:=rbT 111 32 (reS1 s) (reB1 s)
def reS3 (s:Bs):Bs:=rsT 113 32 (reS2 s) (reB2 s)
def reB3 (s:Bs):Bool:=rbT 113 32 (reS2 s) (reB2 s)
def reV (s:Bs):EndX:=⟨riI 115 4 s false,rtT 111 32 (reS1 s) (reB1 s),rtT 113 32 (reS2 s) (reB2 s),rtT 112 32 (reS3 s) (reB3 s)⟩
def reZ (s:Bs):Int:=reE' (rsT 112 32 (reS3 s) (reB3 s)) (rbT 112 32 (reS3 s) (reB3 s))
def reOk (s:Bs):Bool:=decide (reZ s=0) && chkE (reV s)
def redV (s:Bs):EndX:=if reOk s=true then reV s else zeroE
def redE (s:Bs):Int:=if reOk s=true then 0 else 10
structure Pkt where
 q:Int
 s:Bs
 k:Bs
 d:Bs
 a:Wd
 f:Bs
 g:Bs
 h:Int
 t:Int
deriving DecidableEq
abbrev pktA (x:Pkt):AV:=.agg 12 [int x.q,str x.s,str x.k,.agg 7 [str x.d,widA x.a,str x.f,str x.g],int x.h,int x.t]
def zeroPk:Pkt:=⟨0,[],[],[],wZ,[],[],0,0⟩
def plainB (s:Bs):Bool:=noSl s && nameB s
def numsP (x:Pkt):Bool:=decide (1<=x.q/\x.q<=1099511627776/\0<=x.h/\x.h<=1099511627776/\0<=x.t/\x.t<=1099511627776/\¬ (x.h=0/\x.t=0))
def namsP (x:Pkt):Bool:=partB x.s && (partB x.k && denB x.d)
def coinP (x:Pkt):Bool:=decide (x.a.n≠0) && (plainB x.f && plainB x.g)
def chkP (x:Pkt):Bool:=numsP x && (namsP x && coinP x)
def pktB (x:Pkt):Bs:=tlvI 113 x.q++tlvI 104 x.h++tlvI 116 x.t++tlvT 115 x.s++tlvT 107 x.k++tlvT 100 x.d++tlvT 97 (beB x.a.n)++tlvT 102 x.f++tlvT 103 x.g
def comP (x:Pkt):Bs:=(shaH ([80]++pktB x)).l
def lateP (x:Pkt)(h t:Int):Bool:=decide ((x.h≠0/\x.h<=h)\/(x.t≠0/\x.t<=t))
def failB (e:Int):Bs:=[45,UInt8.ofNat e.toNat]
def ackIs (s:Bs):Bool:=match s with
 | [43]=>true
 | [45,c]=>decide (c≠0)
 | _=>false
def ackV (s:Bs):Int:=match s with
 | [45,c]=>c.toNat
 | _=>0
def rcpB (s:Bs):Bs:=(shaH ([65]++s)).l
def homeP (x:Pkt):Bool:=retB x.s x.d
def arrP (x:Pkt):Bs:=if homeP x=true then x.d.drop (x.s.length + 1) else x.k++[47]++x.d
def escB (s:Bs):Bs:=[101,115,99,114,111,119,47]++s
def sendR (d:List Ent)(x:Pkt):List Ent × Int:=if chkP x=false then ([],1) else if homeP x=true then burnR d x.f x.d x.a else moveR d x.f (escB x.s) x.d x.a
def recvR (d:List Ent)(x:Pkt):List Ent × Int:=if denB (arrP x)=false\/chkP x=false then ([],1) else if homeP x=true then moveR d (escB x.k) x.g (arrP x) x.a else mintR d x.g (arrP x) x.a
def backR (d:List Ent)(x:Pkt):List Ent × Int:=if chkP x=false then ([],1) else if homeP x=true then mintR d x.f x.d x.a else moveR d (escB x.s) x.f x.d x.a

theorem tlvRead {s:Bs}:Av.Spec Tryz.prog GL 92 [str s] [] fun u m=>∃ g,u=ptr g/\m=[.var g 204 (rdA s false)]:=by
 refine qE Tryz.func92 rfl Tryz.ntmps92 rfl (fun _ hs=>?_)
 repeat' first|refine Vz ?_|intro _
 exact reK _ ⟨_,rfl,rfl⟩ slr
instance rdGood {g:Nat}{s:Bs}{b:Bool}:AnsM Tryz.prog GL 155 g [] 204 (rdA s b) True (boo (!b)) (rdA s b):=⟨fun _=>by
 refine qE Tryz.func155 rfl Tryz.ntmps155 rfl (fun _ hs=>?_)
 repeat' first|refine Vz ?_|intro _
 exact reK _ ⟨rfl,rfl⟩ slr⟩
instance rdFails {g:Nat}{s:Bs}{b:Bool}:AnsM Tryz.prog GL 153 g [] 204 (rdA s b) True (.tup []) (rdA s true):=⟨fun _=>by
 refine qE Tryz.func153 rfl Tryz.ntmps153 rfl (fun _ hs=>?_)
 repeat' first|refine Vz ?_|intro _
 exact reN _ ⟨rfl,rfl⟩ slr⟩
def nextC (s:Bs)(b:Bool):UInt8:=if b=true then 0 else s.headD 0
def nextIs (s:Bs)(b:Bool):Bool:=!b && decide (s≠[])
instance rdNext {g:Nat}{s:Bs}{b:Bool}:AnsM Tryz.prog GL 154 g [] 204 (rdA s b) True (.tup [u8A (nextC s b),boo (nextIs s b)]) (rdA s b):=⟨fun _=>by
 refine qE Tryz.func154 rfl Tryz.ntmps154 rfl (fun _ hs=>?_)
 cases b
 ·cases s with
  | nil=>
   repeat' first|refine Yz ?_|intro _
   exact reK _ ⟨rfl,rfl⟩ slr
  | cons c s=>
   repeat' first|refine Yz ?_|intro _
   exact reK _ ⟨rfl,rfl⟩ slr
 ·repeat' first|refine Yz ?_|intro _
  exact reK _ ⟨rfl,rfl⟩ slr⟩
instance rdLeft {g:Nat}{s:Bs}{b:Bool}:AnsM Tryz.prog GL 264 g [] 204 (rdA s b) True (int (if b=true then 0 else s.length:Nat)) (rdA s b):=⟨fun _=>by
 refine qE Tryz.func264 rfl Tryz.ntmps264 rfl (fun _ hs=>?_)
 cases b
 ·repeat' first|refine Yz ?_|intro _
  exact reK _ ⟨rfl,rfl⟩ slr
 ·repeat' first|refine Yz ?_|intro _
  exact reK _ ⟨rfl,rfl⟩ slr⟩
instance rdEnd {g:Nat}{s:Bs}{b:Bool}:AnsM Tryz.prog GL 95 g [] 204 (rdA s b) True (int (reE' s b)) (rdA s b):=⟨fun _=>by
 refine qE Tryz.func95 rfl Tryz.ntmps95 rfl (fun _ hs=>?_)
 cases b
 ·cases s with
  | nil=>
   repeat' first|refine Yz ?_|intro _
   exact reK _ ⟨rfl,rfl⟩ slr
  | cons c s=>
   repeat' first|refine Yz ?_|intro _
   exact reK _ ⟨rfl,rfl⟩ slr
 ·repeat' first|refine Yz ?_|intro _
  exact reK _ ⟨rfl,rfl⟩ slr⟩
def val3 (a b c:UInt8):Nat->Nat
 | 0=>0
 | 1=>0 * 256 + a.toNat
 | 2=>(0 * 256 + a.toNat) * 256 + b.toNat
 | _=>((0 * 256 + a.toNat) * 256 + b.toNat) * 256 + c.toNat
instance rdText {g:Nat}{s:Bs}{b:Bool}{c most:Int}:AnsM Tryz.prog GL 94 g [.lit (.int .u8 c),int most] 204 (rdA s b) (s.length<=4611686018427387904) (str (rtT c most s b)) (rdA (rsT c most s b) (rbT c most s b)):=⟨fun hl=>by
 refine qE Tryz.func94 rfl Tryz.ntmps94 rfl (fun _ hs=>?_)
 cases b
 rotate_left
 ·repeat' first|refine Yz ?_|intro _
  refine reK [.var g 204 (rdA s true)] ⟨?_,?_⟩ slr
  ·rw [rtT,rbT_bad];rfl
  ·rw [rsT,rbT,rbT_bad];rfl
 rcases s with _|⟨s0,s⟩
 ·repeat' first|refine Yz ?_|intro _
  exact reK [.var g 204 (rdA [] true)] ⟨rfl,rfl⟩ slr
 have hn:(nextC (s0::s) false).toNat=s0.toNat:=rfl
 by_cases hc:(s0.toNat:Int)=c
 rotate_left
 ·have e:cutT c most false (s0::s)=none:=by
   rcases s with _|⟨s1,_|⟨s2,_|⟨s3,r⟩⟩⟩
   ·rfl
   ·rfl
   ·rfl
   ·rw [cutT,if_neg (fun h=>hc h.2.1)]
  repeat' first|refine Yz ?_|intro _
  refine reK [.var g 204 (rdA (s0::s) true)] ⟨?_,?_⟩ slr
  ·rw [rtT,e];rfl
  ·rw [rsT,rbT,e];rfl
 rcases s with _|⟨s1,_|⟨s2,_|⟨s3,r⟩⟩⟩
 ·repeat' first|refine Yz ?_|intro _
  exact reK [.var g 204 (rdA [s0] true)] ⟨rfl,rfl⟩ slr
 ·repeat' first|refine Yz ?_|intro _
  exact reK [.var g 204 (rdA [s0,s1] true)] ⟨rfl,rfl⟩ slr
 ·repeat' first|refine Yz ?_|intro _
  exact reK [.var g 204 (rdA [s0,s1,s2] true)] ⟨rfl,rfl⟩ slr
 have hlen:(s0::s1::s2::s3::r).length=r.length + 4:=rfl
 have q1:=s1.toNat_lt
 have q2:=s2.toNat_lt
 have q3:=s3.toNat_lt
 repeat' first|refine Yz ?_|intro _
 refine al_sliceS 1 4 ?_
 repeat' first|refine Yz ?_|intro _
 refine ac_loop (α:=Nat) (fun i=>[(0,ptr g),(2,int most),(9,int (val3 s1 s2 s3 i:Nat)),(40,.sl 1 [.lit (u8v s1),.lit (u8v s2),.lit (u8v s3)] none),(41,int 3),(42,int i)]) (fun _=>[.var g 204 (rdA (s0::s1::s2::s3::r) false)])
  (fun i=>i<=3) (fun i=>3 - i) 0 ⟨rfl,rfl,rfl,rfl,rfl,rfl,trivial⟩ slr (by omega) ?_
 intro i hi
 rcases i with _|_|_|_|i
 ·have v0:val3 s1 s2 s3 0=0:=rfl
  repeat' first|refine Yz ?_|intro _
  exact ae_round 1 ⟨rfl,rfl,rfl,rfl,rfl,rfl,trivial⟩ slr (by omega) (by omega)
 ·have v1:val3 s1 s2 s3 (0 + 1)=0 * 256 + s1.toNat:=rfl
  repeat' first|refine Yz ?_|intro _
  exact ae_round 2 ⟨rfl,rfl,rfl,rfl,rfl,rfl,trivial⟩ slr (by omega) (by omega)
 ·have v1:val3 s1 s2 s3 (0 + 1 + 1)=(0 * 256 + s1.toNat) * 256 + s2.toNat:=rfl
  repeat' first|refine Yz ?_|intro _
  exact ae_round 3 ⟨rfl,rfl,rfl,rfl,rfl,rfl,trivial⟩ slr (by omega) (by omega)
 rotate_left
 ·exact absurd hi (by omega)
 have hv:val3 s1 s2 s3 (0 + 1 + 1 + 1)=len3 s1 s2 s3:=by simp [val3,len3]
 have hlt:=len3_lt s1 s2 s3
 have hct:cutT c most false (s0::s1::s2::s3::r)=if (len3 s1 s2 s3:Int)<=most/\len3 s1 s2 s3<=r.length then some (r.take (len3 s1 s2 s3),r.drop (len3 s1 s2 s3)) else none:=by
  rw [cutT]
  simp [hc]
 rw [hv]
 generalize len3 s1 s2 s3=n at *
 by_cases h1:(n:Int)<=most
 rotate_left
 ·have e:cutT c most false (s0::s1::s2::s3::r)=none:=by rw [hct,if_neg (fun h=>h1 h.1)]
  repeat' first|refine Yz ?_|intro _
  refine reK [.var g 204 (rdA (s0::s1::s2::s3::r) true)] ⟨?_,?_⟩ slr
  ·rw [rtT,e];rfl
  ·rw [rsT,rbT,e];rfl
 by_cases h2:n<=r.length
 rotate_left
 ·have e:cutT c most false (s0::s1::s2::s3::r)=none:=by rw [hct,if_neg (fun h=>h2 h.2)]
  repeat' first|refine Yz ?_|intro _
  refine reK [.var g 204 (rdA (s0::s1::s2::s3::r) true)] ⟨?_,?_⟩ slr
  ·rw [rtT,e];rfl
  ·rw [rsT,rbT,e];rfl
 have e:cutT c most false (s0::s1::s2::s3::r)=some (r.take n,r.drop n):=by rw [hct,if_pos ⟨h1,h2⟩]
 repeat' first|refine Yz ?_|intro _
 refine al_sliceS 4 (4 + n) ?_
 repeat' first|refine Yz ?_|intro _
 refine al_sliceS (4 + n) (r.length + 4) ?_
 repeat' first|refine Yz ?_|intro _
 refine reK [.var g 204 (rdA (r.drop n) false)] ⟨?_,?_⟩ ?_
 ·rw [rtT,e]
  simp [outOf,Nat.add_comm]
 ·rw [rsT,rbT,e];rfl
 ·have e2:List.drop (4 + n) (List.take (r.length + 4) (s0::s1::s2::s3::r))=r.drop n:=by
   rw [List.take_of_length_le (by simp),Nat.add_comm 4 n]
   simp
  rw [e2]
  exact List.Sublist.refl _⟩

theorem rnN_eq {c:Int}{s:Bs}{b:Bool}:rnN c s b=if lead0 (rtT c 8 s b)=true then 0 else numOf (rtT c 8 s b):=rfl
theorem rnN_lt (c:Int)(s:Bs)(b:Bool):rnN c s b < 18446744073709551616:=by
 rw [rnN_eq]
 have h:=(rtT_len c 8 s b).2 (by decide)
 have:=numOf_small (l:=rtT c 8 s b) (by omega)
 split <;> omega
instance rdNum {g:Nat}{s:Bs}{b:Bool}{c:Int}:AnsM Tryz.prog GL 152 g [.lit (.int .u8 c)] 204 (rdA s b) (s.length<=4611686018427387904) (.lit (.int .u64 (rnN c s b))) (rdA (rsT c 8 s b) (rnB c s b)):=⟨fun hl=>by
 refine qE Tryz.func152 rfl Tryz.ntmps152 rfl (fun _ hs=>?_)
 repeat' first|refine Yz ?_|intro _
 have hx:=(rtT_len c 8 s b).2 (by decide)
 rw [rnB,rnN_eq]
 generalize rtT c 8 s b=x at *
 refine ac_loop (α:=Nat) (fun i=>[(0,ptr g),(5,str x),(6,.lit (.int .u64 (numOf (x.take i):Nat))),(12,int x.length),(13,int i)]) (fun _=>[.var g 204 (rdA (rsT c 8 s b) (rbT c 8 s b))])
  (fun i=>i<=x.length) (fun i=>x.length - i) 0 ⟨rfl,rfl,rfl,rfl,rfl,trivial⟩ slr (by omega) ?_
 intro i hi
 repeat' first|refine Yz ?_|intro _
 refine ac_cond (fun hlt=>?_) (fun hlt=>?_)
 ·have hil:i < x.length:=by omega
  have h1:=numOf_take hil
  have h2:=x[i].toNat_lt
  have h3:=numOf_small (l:=x.take (i + 1)) (by simp;omega)
  repeat' first|refine Yz ?_|intro _
  refine al_idxS i ?_ (List.getElem?_eq_getElem hil)
  repeat' first|refine Yz ?_|intro _
  refine ae_round (i + 1) ⟨rfl,rfl,?_,rfl,rfl,trivial⟩ slr hil (by omega)
  rw [h1]
  rfl
 ·obtain rfl:i=x.length:=by omega
  rw [List.take_length]
  cases x with
  | nil=>
   repeat' first|refine Yz ?_|intro _
   refine reK [.var g 204 (rdA (rsT c 8 s b) (rbT c 8 s b))] ⟨rfl,?_⟩ slr
   simp [lead0]
  | cons a x=>
   have ha:lead0 (a::x)=decide ((a.toNat:Int)=0):=by
    rw [lead0_cons]
    refine decide_eq_decide.2 ⟨fun h=>by rw [h];rfl,fun h=>UInt8.toNat.inj (by simpa using h)⟩
   rw [ha]
   by_cases h0:(a.toNat:Int)=0
   ·rw [dT h0]
    repeat' first|refine Yz ?_|intro _
    refine reK [.var g 204 (rdA (rsT c 8 s b) true)] ⟨rfl,?_⟩ slr
    simp
   ·rw [dZ h0]
    repeat' first|refine Yz ?_|intro _
    refine reK [.var g 204 (rdA (rsT c 8 s b) (rbT c 8 s b))] ⟨rfl,?_⟩ slr
    simp⟩
instance rdInt {g:Nat}{s:Bs}{b:Bool}{c most:Int}:AnsM Tryz.prog GL 93 g [.lit (.int .u8 c),int most] 204 (rdA s b) (s.length<=4611686018427387904/\0<=most/\most<=9223372036854775807) (int (riI c most s b)) (rdA (rsT c 8 s b) (riB c most s b)):=⟨fun hp=>by
 obtain⟨hl,h0,h1⟩:=hp
 refine qE Tryz.func93 rfl Tryz.ntmps93 rfl (fun _ hs=>?_)
 repeat' first|refine Yz ?_|intro _
 have hx:=rnN_lt c s b
 rw [riI,riB]
 generalize rnN c s b=n at *
 by_cases h:most < (n:Int)
 ·rw [if_pos h,dT h]
  repeat' first|refine Yz ?_|intro _
  refine reK [.var g 204 (rdA (rsT c 8 s b) true)] ⟨rfl,?_⟩ slr
  simp
 ·rw [if_neg h,dZ h]
  repeat' first|refine Yz ?_|intro _
  refine reK [.var g 204 (rdA (rsT c 8 s b) (rnB c s b))] ⟨rfl,?_⟩ slr
  simp⟩

theorem all1 {go gi gr gl gm:Nat}{acc:List Bs}{v:Value}{s:Bs}{b:Bool}{c most:Int}(hl:s.length<=4611686018427387904)(hn:acc.length<=1000000000):Av.Spec Tryz.prog GL 263 [ptr go,ptr gi,ptr gl,ptr gm]
  [.tail 9 1 v,.var go 27 (.sl 1 (acc.map str) (some v)),.var gi 158 (ptr gr),.var gr 204 (rdA s b),.var gm 3 (int most),.var gl 5 (.lit (.int .u8 c))]
  fun u m=>∃ v',u=boo (!rbT c most s b)/\m=[.tail 9 1 v',.var go 27 (.sl 1 ((acc++[rtT c most s b]).map str) (some v')),.var gi 158 (ptr gr),.var gr 204 (rdA (rsT c most s b) (rbT c most s b)),.var gm 3 (int most),.var gl 5 (.lit (.int .u8 c))]:=by
 refine qE Tryz.func263 rfl Tryz.ntmps263 rfl (fun _ hs=>?_)
 repeat' first|refine Yz ?_|intro _
 apply obl_fresh [0];exact rfl;exact rfl;exact rfl;kernel_rfl;intro _ _
 refine al_append (fun v'=>?_)
 refine al_nil (ae_fresh [.tail 9 1 v'] [] rfl rfl lpr rfl ?_)
 repeat' first|refine Yz ?_|intro _
 refine reK _ ⟨v',rfl,rfl⟩ ?_
 rw [List.map_append]
 exact List.Sublist.refl _
theorem bods_nil {c most:Int}{f:Nat}:bods c most (f + 1) [] false=([],false):=by rw [bods,if_pos (.inr rfl)]
theorem bods_bad {c most:Int}:∀ {f:Nat} {s:Bs},bods c most f s true=([],true)
 | 0,_=>rfl
 | f + 1,s=>by rw [bods,if_pos (.inl rfl)]
theorem bods_cons {c most:Int}{f:Nat}{a:UInt8}{s:Bs}:bods c most (f + 1) (a::s) false=(rtT c most (a::s) false::(bods c most f (rsT c most (a::s) false) (rbT c most (a::s) false)).1,(bods c most f (rsT c most (a::s) false) (rbT c most (a::s) false)).2):=by rw [bods,if_neg (by simp)]
instance rdAll {g:Nat}{s:Bs}{b:Bool}{c many most:Int}:AnsM Tryz.prog GL 230 g [.lit (.int .u8 c),int many,int most] 204 (rdA s b) (s.length<=1000000000) (.sl 1 ((raL c many most s b).map str) none) (rdA (rsT c 16777215 s b) (raB c many most s b)):=⟨fun hl=>by
 refine qE Tryz.func230 rfl Tryz.ntmps230 rfl (fun _ hs=>?_)
 repeat' first|refine Yz ?_|intro _
 have hx:=(rtT_len c 16777215 s b).1
 have hx2:=(rsT_len c 16777215 s b).1
 rw [raL,raB]
 generalize rtT c 16777215 s b=x at *
 generalize rsT c 16777215 s b=s1 at *
 generalize rbT c 16777215 s b=b1 at *
 refine al_callK (args:=[str x]) [] _ (by rw [hs];exact tlvRead) (fun u m1 hh=>?_) lpr
 obtain⟨gr,rfl,rfl⟩:=hh
 repeat' first|refine Yz ?_|intro _
 rename_i gl gm gi go
 refine al_makeFunc (vs:=[.pointer (some ⟨go,0,none⟩),.pointer (some ⟨gi,0,none⟩),.pointer (some ⟨gl,0,none⟩),.pointer (some ⟨gm,0,none⟩)]) ?_
 repeat' first|refine Yz ?_|intro _
 generalize hX:allX c most x=X at *
 refine ac_asV (g:=go) (v':=.sl 1 [] (some (.slice none 0 0))) ImpC.nilT ?_
 refine ac_st (fun ok w h=>h.full 9 1 none 0) ?_
 refine ac_midB (α:=Value) (fun _=>[(0,ptr g),(2,int many),(10,ptr go)]) (fun v=>[.tail 9 1 v,.var go 27 (.sl 1 (X.1.map str) (some v)),.var g 204 (rdA s1 (b1 || X.2))]) ?_ (fun v=>?_)
 focus
  refine ac_loop (α:=List Bs × Value × Bs × Nat) (fun _=>[(0,ptr g),(2,int many),(9,ptr gi),(10,ptr go),(11,fnv 263 [.pointer (some ⟨go,0,none⟩),.pointer (some ⟨gi,0,none⟩),.pointer (some ⟨gl,0,none⟩),.pointer (some ⟨gm,0,none⟩)])])
   (fun q=>[.tail 9 1 q.2.1,.var go 27 (.sl 1 (q.1.map str) (some q.2.1)),.var gi 158 (ptr gr),.var gr 204 (rdA q.2.2.1 false),.var gm 3 (int most),.var gl 5 (.lit (.int .u8 c)),.var g 204 (rdA s1 b1)])
   (fun q=>X=(q.1++(bods c most q.2.2.2 q.2.2.1 false).1,(bods c most q.2.2.2 q.2.2.1 false).2)/\q.2.2.1.length < q.2.2.2/\q.1.length + q.2.2.1.length<=x.length) (fun q=>q.2.2.2) ([],.slice none 0 0,x,x.length + 1) ⟨rfl,rfl,rfl,rfl,rfl,trivial⟩ slr ⟨hX.symm,by dsimp only;omega,by simp⟩ ?_
  rintro⟨acc,v,s2,f⟩ ⟨e1,e2,e3⟩
  dsimp only at e1 e2 e3 ⊢
  rcases f with _|f
  focus
   omega
  cases s2 with
  | nil=>
   rw [bods_nil,List.append_nil] at e1
   subst e1
   repeat' first|refine Yz ?_|intro _
   refine ae_cut v ⟨rfl,rfl,rfl,trivial⟩ ?_
   rw [Bool.or_false]
   exact sbl
  | cons a s2=>
   have hl2:(if false=true then 0 else (a::s2).length)=s2.length + 1:=rfl
   repeat' first|refine Yz ?_|intro _
   refine al_callV (args:=[]) (cs:=[.pointer (some ⟨go,0,none⟩),.pointer (some ⟨gi,0,none⟩),.pointer (some ⟨gl,0,none⟩),.pointer (some ⟨gm,0,none⟩)])
    [.tail 9 1 v,.var go 27 (.sl 1 (acc.map str) (some v)),.var gi 158 (ptr gr),.var gr 204 (rdA (a::s2) false),.var gm 3 (int most),.var gl 5 (.lit (.int .u8 c))] [.var g 204 (rdA s1 b1)]
    (by rw [hs];exact all1 (by omega) (by omega)) (fun u m1 hh=>?_) lpr
   obtain⟨v',rfl,rfl⟩:=hh
   rw [bods_cons] at e1
   have hle:=(rsT_len c most (a::s2) false).1
   have hlt:=rsT_dec (c:=c) (most:=most) (s:=a::s2) (b:=false)
   generalize rtT c most (a::s2) false=x' at *
   generalize rsT c most (a::s2) false=s3 at *
   cases hb:rbT c most (a::s2) false
   ·have hlt:=hlt hb
    rw [hb] at e1
    repeat' first|refine Yz ?_|intro _
    refine ae_round (acc++[x'],v',s3,f) ⟨rfl,rfl,rfl,rfl,rfl,trivial⟩ slr ⟨?_,by dsimp only;omega,by simp only [List.length_append,List.length_cons,List.length_nil];omega⟩ (by dsimp only;omega)
    simpa using e1
   ·rw [hb,bods_bad] at e1
    subst e1
    repeat' first|refine Yz ?_|intro _
    refine ae_cut v' ⟨rfl,rfl,rfl,trivial⟩ ?_
    rw [Bool.or_true]
    exact sbl
 focus
  have hml:(X.1.map str).length=X.1.length:=llm _
  unfold outA badA
  by_cases hm:many < (X.1.length:Int)
  ·rw [dT hm,Bool.or_true,Bool.or_true,if_pos rfl]
   repeat' first|refine Yz ?_|intro _
   refine reIKm (.sl 1 [] none) [.var g 204 (rdA s1 true)] ?_ ⟨rfl,rfl⟩ ?_
   focus
    exact Imp.nilN
   exact sbl
  ·rw [dZ hm,Bool.or_false]
   cases hb:(b1 || X.2)
   ·repeat' first|refine Yz ?_|intro _
    refine reIKm (.sl 1 (X.1.map str) none) [.var g 204 (rdA s1 false)] ?_ ⟨rfl,rfl⟩ ?_
    focus
     exact Imp.sl
    exact sbl
   ·repeat' first|refine Yz ?_|intro _
    refine reIKm (.sl 1 [] none) [.var g 204 (rdA s1 true)] ?_ ⟨rfl,rfl⟩ ?_
    focus
     exact Imp.nilN
    repeat (first|exact List.nil_sublist _|exact List.Sublist.refl _|apply List.Sublist.cons_cons|apply List.Sublist.cons)⟩
end Go.Proofs.YtlkkekpcofjbeaaGreatDoor
