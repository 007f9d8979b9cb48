/- law CoreHands in plain words: the roots that are shown, the worlds of its steps -/
import Derived.KernelRfl
import Derived.Test.YtlkkekpcofjbeaaGreatDoorA01
import Derived.Test.YtlkkekpcofjbeaaGreatDoorA16
import Derived.Test.YtlkkekpcofjbeaaGreatDoorA28
import Derived.Test.YtlkkekpcofjbeaaGreatDoorA37
import Derived.Test.YtlkkekpcofjbeaaGreatDoorA39
namespace Go.Proofs.YtlkkekpcofjbeaaGreatDoor
open Go Go.RowKit Tw Av
def xF:TxX:=⟨1,[],[],[],[],[],0,⟨[],0,0,zeroH⟩,zeroH,⟨0,[],[],[120],⟨5,by decide⟩,[],[97],0,0⟩,[],0,⟨0,0,[]⟩,⟨0,[],[],⟨0,0,[]⟩,⟨0,0,[]⟩⟩⟩
def xS:TxX:=⟨13,[],[],[],[],[],0,⟨[],0,0,zeroH⟩,zeroH,⟨0,[],[],[120],⟨5,by decide⟩,[],[97],0,0⟩,[],0,⟨0,0,[]⟩,⟨0,[],[],⟨0,0,[]⟩,⟨0,0,[]⟩⟩⟩
def dF:List Ent:=[⟨balK [97] [120],beB 5⟩,⟨totK [120],beB 5⟩]
theorem do_F:doR [] xF 1 1=(dF,rep0):=by kernel_rfl
theorem dF_ok:DOk dF:=⟨by simp [Srt,dF];decide,by intro x hx;simp [dF] at hx;rcases hx with rfl|rfl <;> decide,by decide⟩
theorem do_S:(doR dF xS 1 1).2=repE 12:=by kernel_rfl
theorem bal_F:(getW dF (balK [97] [120]))=⟨5,by decide⟩:=by kernel_rfl
theorem xF_b:TxB xF:=⟨by decide,by decide,by decide,by decide,by decide,by decide,by decide,by decide,by decide,by decide,by decide,by decide,by decide,by decide,by decide⟩
theorem xS_b:TxB xS:=⟨by decide,by decide,by decide,by decide,by decide,by decide,by decide,by decide,by decide,by decide,by decide,by decide,by decide,by decide,by decide⟩
attribute [local irreducible] doR
end Go.Proofs.YtlkkekpcofjbeaaGreatDoor

namespace Go.Proofs.YtlkkekpcofjbeaaGreatDoor
open Go Go.RowKit Tw Av
def K18 (k:Int):Prop:=k=1\/k=13
attribute [local irreducible] doR callV fundR sndR
set_option maxHeartbeats 4000000 in
theorem fnCoDo18 {d:List Ent}{h t:Int}{x:TxX}:Ans Tryz.prog GL 12 [.agg 1 [.sl 2 (d.map entA) none],txA x,int h,int t] (DOk d/\TxB x/\K18 x.k) (.tup [dA (doR d x h t).1,repA (doR d x h t).2]):=⟨fun hp=>by
 obtain⟨hd,hb,hk⟩:=hp
 have hq:DOk d/\TxB x:=⟨hd,hb⟩
 refine qE Tryz.func12 rfl Tryz.ntmps12 rfl (fun _ hs=>?_)
 repeat' first|refine Zz ?_|intro _
 rcases hk with h|h
 ·rw [h,call1,do1 h]
  repeat' first|refine Zz ?_|intro _
  refine al_fnNF (by kernel_rfl) ?_
  repeat' first|refine Zz ?_|intro _
  refine reE ?_
  rfl
 ·rw [h,call13,do13 h]
  repeat' first|refine Zz ?_|intro _
  refine al_fnNF (by kernel_rfl) ?_
  repeat' first|refine Zz ?_|intro _
  refine reE ?_
  rfl⟩
set_option maxRecDepth 100000 in
set_option maxHeartbeats 2000000 in
instance fnAwake18z:Ans Tryz.prog GL 4 [] True (boo true):=⟨fun _=>by
 haveI hDoI:∀ {d:List Ent} {h t:Int} {x:TxX},Ans Tryz.prog GL 12 [.agg 1 [.sl 2 (d.map entA) none],txA x,int h,int t] (DOk d/\TxB x/\K18 x.k) (.tup [dA (doR d x h t).1,repA (doR d x h t).2]):=fnCoDo18
 refine qE Tryz.func4 rfl Tryz.ntmps4 rfl (fun _ hs=>?_)
 repeat' first|refine Zz ?_|intro _
 refine al_as 13 (v':=dA []) (show Imp (.agg 1 [.lit (.slice none 0 0)]) (.agg 1 [.sl 2 [] none]) from ImpR.imp) ?_
 refine al_as 14 (v':=txA xF) ?_ ?_
 ·show Imp _ (.agg 100 [int 1,str [],str [],str [],str [],str [],int 0,.agg 35 [str [],int 0,int 0,hA zeroH],hA zeroH,.agg 12 [int 0,str [],str [],.agg 7 [str [120],.agg 4 [.lit (.int .u64 5),.lit (.int .u64 0),.lit (.int .u64 0),.lit (.int .u64 0)],str [],str [97]],int 0,int 0],str [],int 0,.agg 3 [int 0,int 0,.sl 32 [] none],.agg 9 [int 0,.sl 2 [] none,.sl 2 [] none,.agg 3 [int 0,int 0,.sl 32 [] none],.agg 3 [int 0,int 0,.sl 32 [] none]]])
  exact ImpR.imp
 have hp:DOk []/\TxB xF/\K18 xF.k:=⟨.nil,xF_b,.inl rfl⟩
 refine al_callI [.agg 1 [.sl 2 (([]:List Ent).map entA) none],txA xF,int 1,int 1] (hc:=hDoI) (hp:=hp) ?_
 rw [do_F]
 repeat' first|refine Zz ?_|intro _
 refine al_as 21 (v':=txA xS) ?_ ?_
 ·show Imp _ (.agg 100 [int 13,str [],str [],str [],str [],str [],int 0,.agg 35 [str [],int 0,int 0,hA zeroH],hA zeroH,.agg 12 [int 0,str [],str [],.agg 7 [str [120],.agg 4 [.lit (.int .u64 5),.lit (.int .u64 0),.lit (.int .u64 0),.lit (.int .u64 0)],str [],str [97]],int 0,int 0],str [],int 0,.agg 3 [int 0,int 0,.sl 32 [] none],.agg 9 [int 0,.sl 2 [] none,.sl 2 [] none,.agg 3 [int 0,int 0,.sl 32 [] none],.agg 3 [int 0,int 0,.sl 32 [] none]]])
  exact ImpR.imp
 have hp2:DOk dF/\TxB xS/\K18 xS.k:=⟨dF_ok,xS_b,.inr rfl⟩
 have hp3:=dF_ok
 have hp4:dF.length=2:=rfl
 refine al_callI [.agg 1 [.sl 2 (dF.map entA) none],txA xS,int 1,int 1] (hc:=hDoI) (hp:=hp2) ?_
 rw [do_S]
 repeat' first|refine Zz ?_|intro _
 rw [bal_F]
 repeat' first|refine Zz ?_|intro _
 refine reE ?_
 rfl⟩
end Go.Proofs.YtlkkekpcofjbeaaGreatDoor

namespace TwS
open Tw
section
variable {ι:Type}
def pk:List W32->Nat
 | []=>0
 | x::l=>2 ^ 64 * pk l + x.toNat
def msk:Nat->Nat
 | 0=>0
 | n + 1=>2 ^ 64 * msk n + 4294967295
def ons:Nat->Nat
 | 0=>0
 | n + 1=>2 ^ 64 * ons n + 1
abbrev P (ls:List ι)(f:ι->W32):Nat:=pk (ls.map f)
theorem two_bit {a x j:Nat}(h:a < 2 ^ 64):(2 ^ 64 * x + a).testBit j=if j < 64 then a.testBit j else x.testBit (j - 64):=Nat.testBit_two_pow_mul_add x h j
theorem lt64 (x:W32):x.toNat < 2 ^ 64:=Nat.lt_of_lt_of_le x.isLt (by decide)
theorem m_bit (j:Nat):(4294967295:Nat).testBit j=decide (j < 32):=by
 have:=Nat.testBit_two_pow_sub_one 32 j
 simpa using this
theorem bit_ge {a j:Nat}(h:a < 2 ^ 32)(hj:32<=j):a.testBit j=false:=Nat.testBit_lt_two_pow (Nat.lt_of_lt_of_le h (Nat.pow_le_pow_right (by decide) hj))
theorem pk_xor (ls:List ι)(f g:ι->W32):P ls (fun i=>f i ^^^ g i)=P ls f ^^^ P ls g:=by
 induction ls with
 | nil=>simp [P,pk]
 | cons i ls ih=>
  simp only [P,List.map_cons,pk] at ih ⊢
  rw [ih]
  apply Nat.eq_of_testBit_eq
  intro j
  rw [Nat.testBit_xor,two_bit (lt64 _),two_bit (lt64 _),two_bit (lt64 _),BitVec.toNat_xor,Nat.testBit_xor,Nat.testBit_xor]
  split <;> rfl
theorem pk_and (ls:List ι)(f g:ι->W32):P ls (fun i=>f i &&& g i)=P ls f &&& P ls g:=by
 induction ls with
 | nil=>simp [P,pk]
 | cons i ls ih=>
  simp only [P,List.map_cons,pk] at ih ⊢
  rw [ih]
  apply Nat.eq_of_testBit_eq
  intro j
  rw [Nat.testBit_and,two_bit (lt64 _),two_bit (lt64 _),two_bit (lt64 _),BitVec.toNat_and,Nat.testBit_and,Nat.testBit_and]
  split <;> rfl
theorem pk_or (ls:List ι)(f g:ι->W32):P ls (fun i=>f i ||| g i)=P ls f ||| P ls g:=by
 induction ls with
 | nil=>simp [P,pk]
 | cons i ls ih=>
  simp only [P,List.map_cons,pk] at ih ⊢
  rw [ih]
  apply Nat.eq_of_testBit_eq
  intro j
  rw [Nat.testBit_or,two_bit (lt64 _),two_bit (lt64 _),two_bit (lt64 _),BitVec.toNat_or,Nat.testBit_or,Nat.testBit_or]
  split <;> rfl
theorem pk_add (ls:List ι)(f g:ι->W32):P ls (fun i=>f i + g i)=(P ls f + P ls g) &&& msk ls.length:=by
 induction ls with
 | nil=>simp [P,pk,msk]
 | cons i ls ih=>
  simp only [P,List.map_cons,pk,List.length_cons,msk] at ih ⊢
  rw [ih]
  apply Nat.eq_of_testBit_eq
  intro j
  have h1:=(f i).isLt
  have h2:=(g i).isLt
  rw [show 2 ^ 64 * pk (List.map f ls) + (f i).toNat + (2 ^ 64 * pk (List.map g ls) + (g i).toNat)=2 ^ 64 * (pk (List.map f ls) + pk (List.map g ls)) + ((f i).toNat + (g i).toNat) by omega]
  rw [Nat.testBit_and,two_bit (lt64 _),two_bit (show (f i).toNat + (g i).toNat < 2 ^ 64 by omega),two_bit (by decide),Nat.testBit_and,m_bit,BitVec.toNat_add,Nat.testBit_mod_two_pow]
  split
  ·by_cases hj:j < 32 <;> simp [hj]
  ·rfl
theorem pk_shr (n:Nat)(hn:n<=32)(ls:List ι)(f:ι->W32):P ls (fun i=>f i >>> n)=(P ls f >>> n) &&& msk ls.length:=by
 induction ls with
 | nil=>simp [P,pk,msk]
 | cons i ls ih=>
  simp only [P,List.map_cons,pk,List.length_cons,msk] at ih ⊢
  rw [ih]
  apply Nat.eq_of_testBit_eq
  intro j
  have h1:=(f i).isLt
  rw [Nat.testBit_and,two_bit (lt64 _),Nat.testBit_shiftRight,two_bit (lt64 _),two_bit (by decide),Nat.testBit_and,m_bit,BitVec.toNat_ushiftRight,Nat.testBit_shiftRight,Nat.testBit_shiftRight]
  by_cases hj:j < 64
  ·rw [if_pos hj,if_pos hj]
   by_cases hj2:j < 32
   ·rw [if_pos (by omega)]
    simp [hj2]
   ·rw [bit_ge h1 (by omega)]
    simp [hj2]
  ·rw [if_neg hj,if_neg hj,if_neg (by omega)]
   congr 2
   omega
theorem pk_shl (n:Nat)(hn:n<=32)(ls:List ι)(f:ι->W32):P ls (fun i=>f i <<< n)=(P ls f <<< n) &&& msk ls.length:=by
 induction ls with
 | nil=>simp [P,pk,msk]
 | cons i ls ih=>
  simp only [P,List.map_cons,pk,List.length_cons,msk] at ih ⊢
  rw [ih]
  apply Nat.eq_of_testBit_eq
  intro j
  have h1:=(f i).isLt
  rw [Nat.testBit_and,two_bit (lt64 _),Nat.testBit_shiftLeft,two_bit (lt64 _),two_bit (by decide),Nat.testBit_and,m_bit,BitVec.toNat_shiftLeft,Nat.testBit_mod_two_pow,Nat.testBit_shiftLeft,Nat.testBit_shiftLeft]
  by_cases hj:j < 64
  ·rw [if_pos hj,if_pos hj,if_pos (by omega)]
   rw [Bool.and_comm]
  ·rw [if_neg hj,if_neg hj]
   by_cases h2:j - n < 64
   ·rw [if_pos h2,bit_ge h1 (by omega),show decide (j - 64 ≥ n)=false from dZ (by omega)]
    simp
   ·rw [if_neg h2,show decide (j - 64 ≥ n)=true from dT (by omega),show decide (j ≥ n)=true from dT (by omega),show j - n - 64=j - 64 - n by omega]
theorem pk_const (ls:List ι)(c:W32):P ls (fun _=>c)=c.toNat * ons ls.length:=by
 induction ls with
 | nil=>rfl
 | cons i ls ih=>
  simp only [P,List.map_cons,pk,List.length_cons,ons] at ih ⊢
  rw [ih,Nat.mul_add,<- Nat.mul_assoc,<- Nat.mul_assoc,Nat.mul_comm c.toNat (2 ^ 64)]
  omega
def fc {β:Type}(x:Nat)(k:Nat->β):β:=Nat.rec (k 0) (fun n _=>k (n + 1)) x
theorem fc_eq {β:Type}(x:Nat)(k:Nat->β):fc x k=k x:=by cases x <;> rfl
def ad (M x y:Nat):Nat:=(x + y) &&& M
def rt (M x n m:Nat):Nat:=((x >>> n) &&& M) ||| ((x <<< m) &&& M)
def g0 (M x:Nat):Nat:=rt M x 7 25 ^^^ rt M x 18 14 ^^^ ((x >>> 3) &&& M)
def g1 (M x:Nat):Nat:=rt M x 17 15 ^^^ rt M x 19 13 ^^^ ((x >>> 10) &&& M)
def b1 (M e:Nat):Nat:=rt M e 6 26 ^^^ rt M e 11 21 ^^^ rt M e 25 7
def b0 (M a:Nat):Nat:=rt M a 2 30 ^^^ rt M a 13 19 ^^^ rt M a 22 10
def sGo (M O:Nat):List W32->List Nat->Nat->Nat->Nat->Nat->Nat->Nat->Nat->Nat->List Nat
 | [],_,a,b,c,d,e,f,g,h=>[a,b,c,d,e,f,g,h]
 | k::ks,w,a,b,c,d,e,f,g,h=>
  fc (ad M (ad M (ad M (w.getD 0 0) (g0 M (w.getD 1 0))) (w.getD 9 0)) (g1 M (w.getD 14 0))) fun nw=>
  fc (ad M (ad M (ad M (ad M h (b1 M e)) (g ^^^ (e &&& (f ^^^ g)))) (k.toNat * O)) (w.getD 0 0)) fun t=>
  fc (ad M (ad M t (b0 M a)) ((a &&& b) ||| (c &&& (a ||| b)))) fun a'=>
  fc (ad M d t) fun e'=>
  sGo M O ks (w.drop 1++[nw]) a' a b c e' e f g
def sCom (M O:Nat)(w x:List Nat):List Nat:=
 List.zipWith (ad M) x (sGo M O kTab w (x.getD 0 0) (x.getD 1 0) (x.getD 2 0) (x.getD 3 0) (x.getD 4 0) (x.getD 5 0) (x.getD 6 0) (x.getD 7 0))
def wx (blk:Bs)(k:Nat):W32:=if k < 16 then wordAt blk k else nextW (ws blk k) k
theorem ws_eq (blk:Bs):∀ k,ws blk k=(List.range k).map (wx blk)
 | 0=>rfl
 | k + 1=>by
  rw [List.range_succ,List.map_append,<- ws_eq blk k]
  rfl
theorem ws_get (blk:Bs){i k:Nat}(h:i < k):(ws blk k).getD i 0=wx blk i:=by
 rw [ws_eq]
 simp [List.getD,h]
theorem wx_next (blk:Bs)(t:Nat):wx blk (t + 16)=wx blk t + sig0 (wx blk (t + 1)) + wx blk (t + 9) + sig1 (wx blk (t + 14)):=by
 rw [wx,if_neg (by omega),nextW,ws_get blk (show t + 16 - 16 < t + 16 by omega),ws_get blk (show t + 16 - 15 < t + 16 by omega),ws_get blk (show t + 16 - 7 < t + 16 by omega),ws_get blk (show t + 16 - 2 < t + 16 by omega)]
 rfl
variable (ls:List ι)
theorem pk_rot (f:ι->W32)(n m:Nat)(hn:n<=32)(hm:m=32 - n):P ls (fun i=>rotr (f i) n)=rt (msk ls.length) (P ls f) n m:=by
 subst hm
 unfold rotr rt
 rw [pk_or,pk_shr n hn,pk_shl (32 - n) (by omega)]
theorem pk_g0 (f:ι->W32):P ls (fun i=>sig0 (f i))=g0 (msk ls.length) (P ls f):=by
 unfold sig0 g0
 rw [pk_xor,pk_xor,pk_rot ls f 7 25 (by decide) rfl,pk_rot ls f 18 14 (by decide) rfl,pk_shr 3 (by decide)]
theorem pk_g1 (f:ι->W32):P ls (fun i=>sig1 (f i))=g1 (msk ls.length) (P ls f):=by
 unfold sig1 g1
 rw [pk_xor,pk_xor,pk_rot ls f 17 15 (by decide) rfl,pk_rot ls f 19 13 (by decide) rfl,pk_shr 10 (by decide)]
theorem pk_b1 (f:ι->W32):P ls (fun i=>rotr (f i) 6 ^^^ rotr (f i) 11 ^^^ rotr (f i) 25)=b1 (msk ls.length) (P ls f):=by
 unfold b1
 rw [pk_xor,pk_xor,pk_rot ls f 6 26 (by decide) rfl,pk_rot ls f 11 21 (by decide) rfl,pk_rot ls f 25 7 (by decide) rfl]
theorem pk_b0 (f:ι->W32):P ls (fun i=>rotr (f i) 2 ^^^ rotr (f i) 13 ^^^ rotr (f i) 22)=b0 (msk ls.length) (P ls f):=by
 unfold b0
 rw [pk_xor,pk_xor,pk_rot ls f 2 30 (by decide) rfl,pk_rot ls f 13 19 (by decide) rfl,pk_rot ls f 22 10 (by decide) rfl]
def wn (blk:ι->Bs)(t:Nat):List Nat:=(List.range 16).map fun j=>P ls fun i=>wx (blk i) (t + j)
theorem wn_get (blk:ι->Bs)(t j:Nat)(h:j < 16):(wn ls blk t).getD j 0=P ls fun i=>wx (blk i) (t + j):=by
 simp [wn,List.getD,h]
theorem wn_next (blk:ι->Bs)(t:Nat):(wn ls blk t).drop 1++[P ls fun i=>wx (blk i) (t + 16)]=wn ls blk (t + 1):=by
 simp only [wn,List.range,List.range.loop,List.map_cons,List.map_nil,List.drop_succ_cons,List.drop_zero,List.cons_append,List.nil_append]
def words8 (y:ι->H8):List Nat:=[P ls fun i=>(y i).a,P ls fun i=>(y i).b,P ls fun i=>(y i).c,P ls fun i=>(y i).d,P ls fun i=>(y i).e,P ls fun i=>(y i).f,P ls fun i=>(y i).g,P ls fun i=>(y i).h]
theorem sGo_spec (blk:ι->Bs)(x:ι->H8):∀ (ks:List W32) (t:Nat),ks=kTab.drop t->t + ks.length=64 ->
  sGo (msk ls.length) (ons ls.length) ks (wn ls blk t) (P ls fun i=>(roundsTo (blk i) (x i) t).a) (P ls fun i=>(roundsTo (blk i) (x i) t).b) (P ls fun i=>(roundsTo (blk i) (x i) t).c) (P ls fun i=>(roundsTo (blk i) (x i) t).d) (P ls fun i=>(roundsTo (blk i) (x i) t).e) (P ls fun i=>(roundsTo (blk i) (x i) t).f) (P ls fun i=>(roundsTo (blk i) (x i) t).g) (P ls fun i=>(roundsTo (blk i) (x i) t).h)
   = words8 ls fun i=>roundsTo (blk i) (x i) 64
 | [],t,_,h2=>by
  obtain rfl:t=64:=by simpa using h2
  rfl
 | k::ks,t,h1,h2=>by
  have hk:kTab.getD t 0=k:=by
   have h:=congrArg (fun l:List W32=>l.getD 0 0) h1
   simp only [List.getD,List.getElem?_drop,List.getElem?_cons_zero,Option.getD_some,Nat.add_zero] at h ⊢
   exact h.symm
  have hks:ks=kTab.drop (t + 1):=by
   have h:=congrArg (List.drop 1) h1
   simpa [List.drop_drop] using h
  have ht:t < 64:=by rw [List.length_cons] at h2;omega
  have ih:=sGo_spec blk x ks (t + 1) hks (by rw [List.length_cons] at h2;omega)
  rw [sGo,fc_eq,fc_eq,fc_eq,fc_eq]
  have e1:ad (msk ls.length) (ad (msk ls.length) (ad (msk ls.length) ((wn ls blk t).getD 0 0) (g0 (msk ls.length) ((wn ls blk t).getD 1 0))) ((wn ls blk t).getD 9 0)) (g1 (msk ls.length) ((wn ls blk t).getD 14 0))=P ls fun i=>wx (blk i) (t + 16):=by
   rw [wn_get _ _ _ 0 (by decide),wn_get _ _ _ 1 (by decide),wn_get _ _ _ 9 (by decide),wn_get _ _ _ 14 (by decide)]
   simp only [wx_next,ad]
   rw [pk_add,pk_add,pk_add,pk_g0,pk_g1,Nat.add_zero]
  rw [e1,wn_next,wn_get _ _ _ 0 (by decide),Nat.add_zero]
  have hr:∀ i,roundsTo (blk i) (x i) (t + 1)=round k (wx (blk i) t) (roundsTo (blk i) (x i) t):=fun i=>by
   rw [roundsTo,hk,ws_get _ ht]
  simp only [hr] at ih
  rw [<- ih]
  have e2:∀ y:ι->H8,ad (msk ls.length) (ad (msk ls.length) (ad (msk ls.length) (ad (msk ls.length) (P ls fun i=>(y i).h) (b1 (msk ls.length) (P ls fun i=>(y i).e))) ((P ls fun i=>(y i).g) ^^^ ((P ls fun i=>(y i).e) &&& ((P ls fun i=>(y i).f) ^^^ (P ls fun i=>(y i).g))))) (k.toNat * ons ls.length)) (P ls fun i=>wx (blk i) t)
    = P ls fun i=>(y i).h + (rotr (y i).e 6 ^^^ rotr (y i).e 11 ^^^ rotr (y i).e 25) + ((y i).g ^^^ (y i).e &&& ((y i).f ^^^ (y i).g)) + k + wx (blk i) t:=fun y=>by
   simp only [ad]
   rw [pk_add,pk_add,pk_add,pk_add,pk_b1,pk_xor,pk_and,pk_xor,pk_const]
  have e3:∀ (y:ι->H8) (T:ι->W32),ad (msk ls.length) (ad (msk ls.length) (P ls T) (b0 (msk ls.length) (P ls fun i=>(y i).a))) (((P ls fun i=>(y i).a) &&& (P ls fun i=>(y i).b)) ||| ((P ls fun i=>(y i).c) &&& ((P ls fun i=>(y i).a) ||| (P ls fun i=>(y i).b))))
    = P ls fun i=>T i + (rotr (y i).a 2 ^^^ rotr (y i).a 13 ^^^ rotr (y i).a 22) + ((y i).a &&& (y i).b ||| (y i).c &&& ((y i).a ||| (y i).b)):=fun y T=>by
   simp only [ad]
   rw [pk_add,pk_add,pk_b0,pk_or,pk_and,pk_and,pk_or]
  have e4:∀ (y:ι->H8) (T:ι->W32),ad (msk ls.length) (P ls fun i=>(y i).d) (P ls T)=P ls fun i=>(y i).d + T i:=fun y T=>(pk_add ls _ _).symm
  simp only [Nat.add_zero]
  rw [e2,e3,e4]
  rfl
theorem sCom_spec (blk:ι->Bs)(x:ι->H8):sCom (msk ls.length) (ons ls.length) (wn ls blk 0) (words8 ls x)=words8 ls fun i=>compress (x i) (blk i):=by
 have h:=sGo_spec ls blk x kTab 0 rfl rfl
 simp only [roundsTo] at h
 unfold sCom
 simp only [words8,List.getD,List.getElem?_cons_zero,List.getElem?_cons_succ,Option.getD_some] at h ⊢
 rw [h]
 simp only [List.zipWith_cons_cons,List.zipWith_nil_left,ad,<- pk_add]
 rfl
end
end TwS
namespace TwS
open Tw
def fcl {β:Type}:List Nat->(List Nat->β)->β
 | [],k=>k []
 | x::l,k=>fc x fun x=>fcl l fun l=>k (x::l)
theorem fcl_eq {β:Type}:∀ (l:List Nat) (k:List Nat->β),fcl l k=k l
 | [],_=>rfl
 | x::l,k=>by rw [fcl,fc_eq,fcl_eq l]
section
variable {ι:Type} (ls:List ι)
end
end TwS

namespace TwS
open Tw
def lw (x:H8):List Nat:=x.words.map (·.toNat)
def fbl {β:Type}:Bs->(Bs->β)->β
 | [],k=>k []
 | c::l,k=>fc c.toNat fun n=>fbl l fun l=>k (UInt8.ofNat n::l)
theorem fbl_eq {β:Type}:∀ (l:Bs) (k:Bs->β),fbl l k=k l
 | [],_=>rfl
 | c::l,k=>by rw [fbl,fc_eq,fbl_eq l,UInt8.ofNat_toNat]
def cmN (x:List Nat)(blk:Bs):List Nat:=fcl ((List.range 16).map fun j=>(wordAt blk j).toNat) fun w=>sCom 4294967295 1 w x
theorem cmN_eq (x:H8)(blk:Bs):cmN (lw x) blk=lw (compress x blk):=by
 have h1:=sCom_spec [()] (fun _=>blk) fun _=>x
 have e:∀ c:W32,pk [c]=c.toNat:=fun c=>by simp [pk]
 have e1:wn [()] (fun _=>blk) 0=(List.range 16).map fun j=>(wordAt blk j).toNat:=by
  simp [wn,P,e,wx,List.range,List.range.loop]
 have e2:∀ x:H8,words8 [()] (fun _=>x)=x.words.map (·.toNat):=fun x=>by simp [words8,P,e,H8.words]
 rw [e1,e2,e2] at h1
 unfold cmN
 rw [fcl_eq]
 exact h1
def abN:Nat->Bs->List Nat->List Nat
 | 0,_,x=>x
 | n + 1,s,x=>fcl (cmN x (s.take 64)) fun y=>abN n (s.drop 64) y
theorem abN_eq:∀ (n:Nat) (s:Bs) (x:H8),abN n s (lw x)=lw (absorb x n s)
 | 0,_,_=>rfl
 | n + 1,s,x=>by rw [abN,fcl_eq,cmN_eq,abN_eq n,absorb]
def byN (l:List Nat):Bs:=l.flatMap fun w=>[UInt8.ofNat (w / 16777216),UInt8.ofNat (w / 65536),UInt8.ofNat (w / 256),UInt8.ofNat w]
theorem byN_lw (x:H8):byN (lw x)=x.bytes:=rfl
def shK {β:Type}(s:Bs)(k:Bs->β):β:=fbl (pad s) fun p=>fcl (abN (p.length / 64) p [1779033703,3144134277,1013904242,2773480762,1359893119,2600822924,528734635,1541459225]) fun w=>fbl (byN w) k
theorem shK_eq {β:Type}(s:Bs)(k:Bs->β):shK s k=k (sha s):=by
 unfold shK
 rw [fbl_eq,fcl_eq,fbl_eq]
 exact congrArg k (by rw [show [1779033703,3144134277,1013904242,2773480762,1359893119,2600822924,528734635,1541459225]=lw h0 from rfl,abN_eq,byN_lw];rfl)
end TwS

namespace Go.Proofs.YtlkkekpcofjbeaaGreatDoor
open Go Go.RowKit Tw Av TwS
variable {β:Type}
def leafK (e:Ent)(k:Bs->β):β:=shK ([[76],tlvT 107 e.key,tlvT 118 e.val].flatten) k
theorem leafK_eq (e:Ent)(k:Bs->β):leafK e k=k (leafH e).l:=shK_eq _ _
def leafsK:List Ent->(List Bs->β)->β
 | [],k=>k []
 | e::l,k=>leafK e fun h=>leafsK l fun hs=>k (h::hs)
theorem leafsK_eq:∀ (l:List Ent) (k:List Bs->β),leafsK l k=k ((l.map leafH).map (·.l))
 | [],_=>rfl
 | e::l,k=>by rw [leafsK,leafK_eq,leafsK_eq l];rfl
def nodK (a b:Bs)(k:Bs->β):β:=shK ([[78],a,b].flatten) k
theorem nodK_eq (a b:Hsh)(k:Bs->β):nodK a.l b.l k=k (nodeH a b).l:=shK_eq _ _
def treeK:Nat->List Bs->(Bs->β)->β
 | 0,_,k=>k zeroH.l
 | f + 1,l,k=>match l with
  | []=>k zeroH.l
  | [x]=>k x
  | l=>treeK f (l.take ((l.length + 1) / 2)) fun a=>treeK f (l.drop ((l.length + 1) / 2)) fun b=>nodK a b k
theorem treeK_eq:∀ (f:Nat) (l:List Hsh) (k:Bs->β),treeK f (l.map (·.l)) k=k (treeF f l).l
 | 0,_,_=>rfl
 | f + 1,[],_=>rfl
 | f + 1,[x],_=>rfl
 | f + 1,x::y::l,k=>by
  have h:treeF (f + 1) (x::y::l)=nodeH (treeF f ((x::y::l).take (((x::y::l).length + 1) / 2))) (treeF f ((x::y::l).drop (((x::y::l).length + 1) / 2))):=rfl
  have g:treeK (f + 1) ((x::y::l).map (·.l)) k=treeK f (((x::y::l).map (·.l)).take ((((x::y::l).map (·.l)).length + 1) / 2)) fun a=>treeK f (((x::y::l).map (·.l)).drop ((((x::y::l).map (·.l)).length + 1) / 2)) fun b=>nodK a b k:=rfl
  rw [g,h,llm,<- List.map_take,<- List.map_drop,treeK_eq f,treeK_eq f,nodK_eq]
def rootK (d:List Ent)(k:Bs->β):β:=leafsK d fun hs=>treeK hs.length hs fun t=>shK ([[84],tlvI 110 d.length,t].flatten) k
theorem rootK_eq (d:List Ent)(k:Bs->β):rootK d k=k (rootD d).l:=by
 unfold rootK
 rw [leafsK_eq,llm,treeK_eq,shK_eq]
 rfl
def upK:List WayStep->Bs->List Bs->(Bs->β)->β
 | [],h,_,k=>k h
 | t::ts,h,p,k=>upK ts h p.dropLast fun u=>if t.1=true then nodK u (p.getLastD zeroH.l) k else nodK (p.getLastD zeroH.l) u k
theorem upK_eq:∀ (ts:List WayStep) (h:Hsh) (p:List Hsh) (k:Bs->β),upK ts h.l (p.map (·.l)) k=k (upH ts h p).l
 | [],_,_,_=>rfl
 | t::ts,h,p,k=>by
  have e:(p.map (·.l)).getLastD zeroH.l=(p.getLastD zeroH).l:=by
   rw [List.getLastD_eq_getLast?,List.getLastD_eq_getLast?,List.getLast?_map]
   cases p.getLast? <;> rfl
  rw [upK,<- List.map_dropLast,upK_eq ts,e,upH]
  split
  ·exact nodK_eq _ _ _
  ·exact nodK_eq _ _ _
def pathK:List WayStep->List Bs->(List Bs->β)->β
 | [],_,k=>k []
 | t::ts,l,k=>if t.1=true then treeK l.length (l.drop t.2.1) fun a=>pathK ts (l.take t.2.1) fun r=>k (a::r) else treeK l.length (l.take t.2.1) fun a=>pathK ts (l.drop t.2.1) fun r=>k (a::r)
theorem pathK_eq:∀ (ts:List WayStep) (l:List Hsh) (k:List Bs->β),pathK ts (l.map (·.l)) k=k ((pathDown ts l).map (·.l))
 | [],_,_=>rfl
 | t::ts,l,k=>by
  have h1:∀ n,treeF l.length (l.drop n)=treeH (l.drop n):=fun n=>treeF_more _ _ _ (by rw [List.length_drop];omega) (Nat.le_refl _)
  have h2:∀ n,treeF l.length (l.take n)=treeH (l.take n):=fun n=>treeF_more _ _ _ (by rw [List.length_take];omega) (Nat.le_refl _)
  rw [pathK,pathDown,llm]
  split
  ·rw [<- List.map_drop,<- List.map_take,treeK_eq,pathK_eq ts,h1]
   rfl
  ·rw [<- List.map_drop,<- List.map_take,treeK_eq,pathK_eq ts,h2]
   rfl
def badK (d:List Ent)(i:Nat)(a:Int)(e:Ent)(root:Bs):Bool:=
 leafsK d fun hs=>pathK (wayOf hs.length i) hs fun p=>
  if a < 0\/(d.length:Int)<=a\/(wayOf d.length a).length≠p.length then true
  else leafK e fun h=>upK (wayOf d.length a) h p.reverse fun u=>shK ([[84],tlvI 110 d.length,u].flatten) fun b=>decide (b≠root)
theorem badK_holds {d:List Ent}{i:Nat}{a:Int}{e:Ent}{root:Hsh}(h:badK d i a e root.l=true):holdsB root e ⟨a,d.length,pathH (d.map leafH) i⟩=false:=by
 unfold badK at h
 rw [leafsK_eq,llm,pathK_eq] at h
 unfold holdsB foldH
 dsimp only
 have hp:(pathH (d.map leafH) i).length=((pathDown (wayOf (d.map leafH).length i) (d.map leafH)).map (·.l)).length:=by
  unfold pathH
  simp only [List.length_reverse,List.length_map]
 by_cases hc:a < 0\/(d.length:Int)<=a\/(wayOf d.length a).length≠((pathDown (wayOf (d.map leafH).length i) (d.map leafH)).map (·.l)).length
 ·rw [if_pos (by rw [hp];rcases hc with hc|hc|hc;exact .inl hc;exact .inr (.inl hc);exact .inr (.inr (.inr hc)))]
  rfl
 ·rw [if_neg hc,leafK_eq,<- List.map_reverse,upK_eq,shK_eq] at h
  by_cases h2:a < 0\/(d.length:Int)<=a\/2000 < (d.length:Int)\/(wayOf d.length a).length≠(pathH (d.map leafH) i).length
  ·rw [if_pos h2]
   rfl
  ·rw [if_neg h2]
   have h3:¬ topH d.length (upH (wayOf d.length a) (leafH e) (pathH (d.map leafH) i))=root:=fun e2=>of_decide_eq_true h (by rw [<- e2];rfl)
   simp only [Option.isSome_some,Option.getD_some,dZ h3,Bool.and_false]
end Go.Proofs.YtlkkekpcofjbeaaGreatDoor

namespace Go.Proofs.YtlkkekpcofjbeaaGreatDoor
open Go Go.RowKit Tw Av
set_option maxRecDepth 100000
def haR:Nat->Bs
 | 0=>[79,218,119,120,10,3,26,160,203,176,244,187,76,131,115,28,123,56,57,200,249,206,249,61,109,239,94,190,15,11,226,59]
 | 1=>[114,148,210,173,201,148,194,186,62,165,95,240,97,8,109,138,212,25,219,55,119,23,198,178,73,126,183,1,152,209,39,235]
 | 2=>[228,50,62,144,165,223,226,27,64,38,86,229,88,193,83,242,249,171,238,91,185,255,211,204,56,139,182,125,164,51,14,219]
 | 3=>[187,148,77,92,102,120,31,233,200,125,181,21,53,192,168,114,156,249,92,218,21,154,129,114,40,44,9,5,192,142,51,47]
 | 4=>[229,89,130,232,53,173,25,197,11,35,135,195,175,234,154,160,187,116,115,119,80,235,133,137,39,201,233,145,81,89,165,36]
 | 5=>[54,50,187,255,59,243,115,208,62,49,161,252,209,82,154,33,91,71,31,39,105,85,122,228,106,76,196,146,139,2,93,62]
 | 6=>[15,37,215,230,43,153,111,22,84,227,184,228,102,123,193,210,126,53,117,168,220,170,121,249,196,180,185,151,214,207,235,112]
 | 7=>[108,197,22,134,39,172,241,54,5,212,240,210,210,214,169,65,111,214,47,48,200,137,30,184,182,4,125,223,16,130,57,239]
 | _=>[198,201,21,73,48,135,44,168,25,147,190,239,140,194,14,194,200,208,227,36,68,121,140,57,201,175,28,195,170,112,80,241]
def mkHs (b:Bs):Hsh:=if h:b.length=32 then ⟨b,h⟩ else zeroH
theorem mkHs_l {b:Bs}(h:b.length=32):(mkHs b).l=b:=by
 unfold mkHs
 rw [dif_pos h]
theorem root_mk {d:List Ent}{b:Bs}(hb:b.length=32)(h:rootK d (fun x=>decide (x=b))=true):rootD d=mkHs b:=by
 rw [rootK_eq] at h
 exact Hsh.ext' ((of_decide_eq_true h).trans (mkHs_l hb).symm)
def haSt (i:Bool)(j:Nat):List Sta:=(List.range (j + 1)).map fun (q:Nat)=>⟨(q:Int) + 1,1,mkHs (haR (if q=0 then 8 else 2 * (q - 1) + i.toNat))⟩
def haC (i:Bool)(j:Nat):Cli:=⟨if i=true then [97] else [98],[107,101,121]++(if i=true then [97] else [98]),1000,false,haSt i j⟩
def kF (i:Bool):EndX:=if i=true then ⟨2,nmK i,nmK (!i),nmN (!i)⟩ else ⟨1,nmK i,nmK (!i),[]⟩
def hF (i:Bool):EndX:=if i=true then ⟨2,nmN i,nmN (!i),nmH (!i)⟩ else ⟨1,nmN i,nmN (!i),[]⟩
def kEn (i:Bool)(m:Nat):List Ent:=if m=0 then [] else [⟨kyO [75] (nmN i),enxB (if m=1 then kF i else conE i)⟩]
def hEn (i:Bool)(m:Nat):List Ent:=if m<=2 then [] else [⟨kyO [72] (nmH i),enxB (if m=3 then hF i else chaX i)⟩]
def mpH (i:Bool)(j m:Nat):List Ent:=[⟨balK [97,110,110] [120],beB 50⟩,⟨balK [98,111,98] [121],beB 9⟩,⟨kyO [67] (nmK i),cliB (haC i j)⟩]++hEn i m++kEn i m++[⟨totK [120],beB 50⟩,⟨totK [121],beB 9⟩]
theorem minD_is:minD=[⟨balK [97,110,110] [120],beB 50⟩,⟨balK [98,111,98] [121],beB 9⟩,⟨totK [120],beB 50⟩,⟨totK [121],beB 9⟩]:=by kernel_rfl
theorem rootM:rootD minD=mkHs (haR 8):=root_mk rfl (by rw [minD_is];kernel_rfl)
theorem cut_hdr (i:Bool):hdrX (cutS i) 1=⟨if i=true then [98] else [97],1,1,mkHs (haR 8)⟩:=by
 rw [<- rootM]
 cases i <;> rfl
theorem fre_0:(putX (cutS false) (kyO [67] (nmK false)) (cliB (newR ([107,101,121]++(cutS true).n) 1000 ⟨[98],1,1,mkHs (haR 8)⟩))).d=mpH false 0 0:=by kernel_rfl
theorem fre_1:(putX (cutS true) (kyO [67] (nmK true)) (cliB (newR ([107,101,121]++(cutS false).n) 1000 ⟨[97],1,1,mkHs (haR 8)⟩))).d=mpH true 0 0:=by kernel_rfl
theorem fre_d (i:Bool):(freS i).d=mpH i 0 0:=by
 unfold freS clS
 rw [cut_hdr]
 cases i
 ·exact fre_0
 ·exact fre_1
def begT (d:List Ent)(x:TxX)(k:Bs)(e:Int):Out18:=if e≠0 then failR d e else if (tryE x.o x.p ⟨1,x.q,x.o,[]⟩).2≠0 then failR d (tryE x.o x.p ⟨1,x.q,x.o,[]⟩).2 else putsR d (kyO k x.i) (enxB (tryE x.o x.p ⟨1,x.q,x.o,[]⟩).1)
def conT (d:List Ent)(x:TxX)(e:Int):Out18:=if partB x.i=false then failR d 1 else if enB d [75] x.i=true then failR d 13 else if clB d x.o=false then failR d 12 else begT d x [75] e
def opnT (d:List Ent)(x:TxX)(e:Int):Out18:=if partB x.i=false then failR d 1 else if enB d [72] x.i=true then failR d 13 else if enB d [75] x.o=false then failR d 12 else if (enR d [75] x.o).s≠3 then failR d 13 else begT d x [72] e
def joiT (d:List Ent)(x:TxX)(own:EndX)(k:Bs)(ack:Bool)(e:Int):Out18:=
 if e≠0 then failR d e else if (if ack=true then ackE own x.i x.p (thrE own x.i ack) else cnfE own x.i (thrE own x.i ack)).2≠0 then failR d (if ack=true then ackE own x.i x.p (thrE own x.i ack) else cnfE own x.i (thrE own x.i ack)).2
 else putsR d (kyO k x.i) (enxB (if ack=true then ackE own x.i x.p (thrE own x.i ack) else cnfE own x.i (thrE own x.i ack)).1)
def codT (d:List Ent)(x:TxX)(ack:Bool)(e:Int):Out18:=if enB d [75] x.i=false then failR d 12 else joiT d x (enR d [75] x.i) [75] ack e
def opdT (d:List Ent)(x:TxX)(ack:Bool)(e:Int):Out18:=if enB d [72] x.i=false\/enB d [75] (enR d [72] x.i).o=false then failR d 12 else joiT d x (enR d [72] x.i) [72] ack e
theorem do_6 {d:List Ent}{x:TxX}{h t:Int}(hk:x.k=6):doR d x h t=conT d x (prE d x.o x.t t (kyO [75] x.p) (enxB ⟨1,x.q,x.o,[]⟩) x.f):=by
 unfold doR conR begR conT begT
 simp [hk]
theorem do_10 {d:List Ent}{x:TxX}{h t:Int}(hk:x.k=10):doR d x h t=opnT d x (prE d (enR d [75] x.o).o x.t t (kyO [72] x.p) (enxB ⟨1,x.q,x.o,[]⟩) x.f):=by
 unfold doR opnR begR opnT begT
 simp [hk]
theorem do_7 {d:List Ent}{x:TxX}{h t:Int}(hk:x.k=7):doR d x h t=codT d x true (prE d (enR d [75] x.i).o x.t t (kyO [75] x.p) (enxB (thrE (enR d [75] x.i) x.i true)) x.f):=by
 unfold doR codR joiR codT joiT
 simp [hk]
theorem do_8 {d:List Ent}{x:TxX}{h t:Int}(hk:x.k=8):doR d x h t=codT d x false (prE d (enR d [75] x.i).o x.t t (kyO [75] (enR d [75] x.i).p) (enxB (thrE (enR d [75] x.i) x.i false)) x.f):=by
 unfold doR codR joiR codT joiT
 simp [hk]
theorem do_11 {d:List Ent}{x:TxX}{h t:Int}(hk:x.k=11):doR d x h t=opdT d x true (prE d (enR d [75] (enR d [72] x.i).o).o x.t t (kyO [72] x.p) (enxB (thrE (enR d [72] x.i) x.i true)) x.f):=by
 unfold doR opdR joiR opdT joiT
 simp [hk]
theorem do_12 {d:List Ent}{x:TxX}{h t:Int}(hk:x.k=12):doR d x h t=opdT d x false (prE d (enR d [75] (enR d [72] x.i).o).o x.t t (kyO [72] (enR d [72] x.i).p) (enxB (thrE (enR d [72] x.i) x.i false)) x.f):=by
 unfold doR opdR joiR opdT joiT
 simp [hk]
theorem updr_ok {d:List Ent}{x:TxX}{t:Int}(h1:clB d x.i=true)(h2:actC (clR d x.i) t=true)(h3:chkH x.h=true)(h4:x.h.c=(clR d x.i).c)(h5:sealOf (clR d x.i).k x.h=x.m):updR d x t=putsR d (kyO [67] x.i) (cliB (putC (clR d x.i) (stOf x.h))):=by
 have e:updE (clR d x.i) x.h x.m t=0:=by
  unfold updE
  rw [if_neg (by rw [h2];decide),if_neg (by rw [h3,h4];simp),if_neg (by rw [h5];simp)]
 unfold updR updC
 rw [if_neg (by rw [h1];decide),e,if_neg (by decide),if_pos rfl]
theorem pr_ok {d l:List Ent}{i:Bs}{h t:Int}{k v:Bs}{n:Nat}(h0:stE d i h t=0)(hl:l.length<=2000)(hn:n < l.length)(he:l[n]=⟨k,v⟩)(hr:(stR d i h t).r=rootD l)(hi:fndAt l k=n)(hs:fndIs l k=true):prE d i h t k v (memK l k)=0:=by
 have e:holdsB (stR d i h t).r ⟨k,v⟩ (memK l k)=true:=by
  rw [hr,<- he]
  unfold memK memP
  rw [hi,hs,if_pos rfl]
  exact holds_at hn hl
 unfold prE
 rw [if_neg (by rw [e];simp),h0]
theorem pr_bad {d:List Ent}{i:Bs}{h t:Int}{k v:Bs}{p:Prf}(h0:stE d i h t=0)(hh:holdsB (stR d i h t).r ⟨k,v⟩ p=false):prE d i h t k v p=18:=by
 unfold prE
 rw [if_pos ⟨h0,hh⟩]
end Go.Proofs.YtlkkekpcofjbeaaGreatDoor

namespace Go.Proofs.YtlkkekpcofjbeaaGreatDoor
open Go Go.RowKit Tw Av
set_option maxRecDepth 100000
theorem ha_r0:rootK (mpH true 0 0) (fun x=>decide (x=haR 0))=true:=by kernel_rfl
theorem ha_r1:rootK (mpH false 1 1) (fun x=>decide (x=haR 1))=true:=by kernel_rfl
theorem ha_r2:rootK (mpH true 1 1) (fun x=>decide (x=haR 2))=true:=by kernel_rfl
theorem ha_r3:rootK (mpH false 2 2) (fun x=>decide (x=haR 3))=true:=by kernel_rfl
theorem ha_r4:rootK (mpH true 2 2) (fun x=>decide (x=haR 4))=true:=by kernel_rfl
theorem ha_r5:rootK (mpH false 3 3) (fun x=>decide (x=haR 5))=true:=by kernel_rfl
theorem ha_r6:rootK (mpH true 3 3) (fun x=>decide (x=haR 6))=true:=by kernel_rfl
theorem ha_r7:rootK (mpH false 4 4) (fun x=>decide (x=haR 7))=true:=by kernel_rfl
def haI (n:Nat):Bool:=decide (n % 2=1)
def haQ (i:Bool)(n:Nat):Nat:=if i=true then n / 2 else (n + 1) / 2
def haX (i:Bool)(n:Nat):Nat:=if i=true then (n + 1) / 2 else n / 2
theorem ha_r {n:Nat}(h:n < 8):rootD (mpH (!haI n) (haQ (!haI n) n) (haQ (!haI n) n))=mkHs (haR n):=by
 rcases n with _|_|_|_|_|_|_|_|n
 ·exact root_mk rfl ha_r0
 ·exact root_mk rfl ha_r1
 ·exact root_mk rfl ha_r2
 ·exact root_mk rfl ha_r3
 ·exact root_mk rfl ha_r4
 ·exact root_mk rfl ha_r5
 ·exact root_mk rfl ha_r6
 ·exact root_mk rfl ha_r7
 ·omega
def haP (i:Bool)(n:Nat):List (List Ent):=minD::(List.range (haX i n)).map fun (t:Nat)=>if i=true then mpH true t t else mpH false (t + 1) (t + 1)
def haS (i:Bool)(n:Nat):SideX:=⟨if i=true then [98] else [97],mpH i (haQ i n) (haQ i n),(haX i n:Int) + 1,1,haP i n,List.replicate (haX i n + 1) 1,[],[],[]⟩
theorem freS_is (i:Bool):freS i=haS i 0:=by
 have h:=fre_d i
 unfold freS at h ⊢
 unfold putX at h ⊢
 have e:(putR (cutS i).d (kyO [67] (nmK i)) (cliB (clS i))).2=0:=by
  by_cases h0:(putR (cutS i).d (kyO [67] (nmK i)) (cliB (clS i))).2=0
  ·exact h0
  ·rw [if_neg h0] at h
   exact absurd (congrArg List.length h) (by cases i <;> (show ¬ minD.length=_;rw [minD_is];decide))
 rw [if_pos e] at h ⊢
 have h2:(putR (cutS i).d (kyO [67] (nmK i)) (cliB (clS i))).1=mpH i 0 0:=h
 rw [h2]
 cases i <;> rfl
theorem cut_is {n:Nat}:cutX (haS (!haI n) n) ((haS (!haI n) n).t + 0 % 4)=haS (!haI n) (n + 1):=by
 unfold haI
 by_cases h:n % 2=1
 ·rw [dT h]
  obtain⟨m,rfl⟩:∃ m,n=2 * m + 1:=⟨n / 2,by omega⟩
  have e1:haX false (2 * m + 1)=m:=by unfold haX;rw [if_neg (by decide)];omega
  have e2:haX false (2 * m + 1 + 1)=m + 1:=by unfold haX;rw [if_neg (by decide)];omega
  have e3:haQ false (2 * m + 1)=m + 1:=by unfold haQ;rw [if_neg (by decide)];omega
  have e4:haQ false (2 * m + 1 + 1)=m + 1:=by unfold haQ;rw [if_neg (by decide)];omega
  show cutX (haS false (2 * m + 1)) _=haS false (2 * m + 1 + 1)
  unfold cutX haS haP
  rw [e1,e2,e3,e4,List.range_succ,List.map_append,List.replicate_succ' (n:=m + 1)]
  simp
 ·rw [dZ h]
  obtain⟨m,rfl⟩:∃ m,n=2 * m:=⟨n / 2,by omega⟩
  have e1:haX true (2 * m)=m:=by unfold haX;rw [if_pos rfl];omega
  have e2:haX true (2 * m + 1)=m + 1:=by unfold haX;rw [if_pos rfl];omega
  have e3:haQ true (2 * m)=m:=by unfold haQ;rw [if_pos rfl];omega
  have e4:haQ true (2 * m + 1)=m:=by unfold haQ;rw [if_pos rfl];omega
  show cutX (haS true (2 * m)) _=haS true (2 * m + 1)
  unfold cutX haS haP
  rw [e1,e2,e3,e4,List.range_succ,List.map_append,List.replicate_succ' (n:=m + 1)]
  simp
end Go.Proofs.YtlkkekpcofjbeaaGreatDoor
