/- . -/
namespace Tw
abbrev Bs:=List UInt8
abbrev W32:=BitVec 32
def bN:Nat:=16777215
def oO (c:UInt8)(s:Bs):Bs:=
 c::UInt8.ofNat ((s.take bN).length / 65536)::UInt8.ofNat ((s.take bN).length / 256)::UInt8.ofNat (s.take bN).length::s.take bN
def V4:Nat->Nat->Bs
 | 0,_=>[]
 | f+1,n=>if n=0 then [] else V4 f (n / 256)++[UInt8.ofNat n]
def digits (n:Nat):Bs:=V4 8 n
def DZ (c:UInt8)(n:Nat):Bs:=oO c (digits n)
def JU (c:UInt8)(n:Int):Bs:=DZ c n.toNat
structure H8 where
 a:W32
 b:W32
 c:W32
 d:W32
 e:W32
 f:W32
 g:W32
 h:W32
def H8.words (x:H8):List W32:=[x.a,x.b,x.c,x.d,x.e,x.f,x.g,x.h]
def aH (x:W32)(n:Nat):W32:=x >>> n ||| x <<< (32-n)
def jI:List W32:=[
  0x428a2f98,0x71374491,0xb5c0fbcf,0xe9b5dba5,0x3956c25b,0x59f111f1,0x923f82a4,0xab1c5ed5,
  0xd807aa98,0x12835b01,0x243185be,0x550c7dc3,0x72be5d74,0x80deb1fe,0x9bdc06a7,0xc19bf174,
  0xe49b69c1,0xefbe4786,0x0fc19dc6,0x240ca1cc,0x2de92c6f,0x4a7484aa,0x5cb0a9dc,0x76f988da,
  0x983e5152,0xa831c66d,0xb00327c8,0xbf597fc7,0xc6e00bf3,0xd5a79147,0x06ca6351,0x14292967,
  0x27b70a85,0x2e1b2138,0x4d2c6dfc,0x53380d13,0x650a7354,0x766a0abb,0x81c2c92e,0x92722c85,
  0xa2bfe8a1,0xa81a664b,0xc24b8b70,0xc76c51a3,0xd192e819,0xd6990624,0xf40e3585,0x106aa070,
  0x19a4c116,0x1e376c08,0x2748774c,0x34b0bcb5,0x391c0cb3,0x4ed8aa4a,0x5b9cca4f,0x682e6ff3,
  0x748f82ee,0x78a5636f,0x84c87814,0x8cc70208,0x90befffa,0xa4506ceb,0xbef9a3f7,0xc67178f2]
def h0:H8:=⟨0x6a09e667,0xbb67ae85,0x3c6ef372,0xa54ff53a,0x510e527f,0x9b05688c,0x1f83d9ab,0x5be0cd19⟩
def nH (b:UInt8):W32:=BitVec.ofNat 32 b.toNat
def zC (blk:Bs)(i:Nat):W32:=nH (blk.getD (4*i) 0) <<< 24 ||| nH (blk.getD (4*i+1) 0) <<< 16 ||| nH (blk.getD (4*i+2) 0) <<< 8 ||| nH (blk.getD (4*i+3) 0)
def FO (blk:Bs)(i:Nat):Nat->W32
 | 0=>0
 | j+1=>FO blk i j <<< 8 ||| nH (blk.getD (4*i+j) 0)
theorem a1d (blk:Bs)(i:Nat):FO blk i 4=zC blk i:=by
 simp only[FO,zC,BitVec.shiftLeft_or_distrib,<- BitVec.shiftLeft_add];simp
def QM (x:W32):W32:=aH x 7 ^^^ aH x 18 ^^^ x >>> 3
def QL (x:W32):W32:=aH x 17 ^^^ aH x 19 ^^^ x >>> 10
def FU (l:List W32)(i:Nat):W32:=l.getD (i-16) 0+QM (l.getD (i-15) 0)+l.getD (i-7) 0+QL (l.getD (i-2) 0)
def ws (blk:Bs):Nat->List W32
 | 0=>[]
 | k+1=>ws blk k++[if k<16 then zC blk k else FU (ws blk k) k]
def round (k w:W32)(y:H8):H8:=
 let s1:=aH y.e 6 ^^^ aH y.e 11 ^^^ aH y.e 25
 let s0:=aH y.a 2 ^^^ aH y.a 13 ^^^ aH y.a 22
 let ch:=y.g ^^^ y.e &&& (y.f ^^^ y.g)
 let maj:=y.a &&& y.b ||| y.c &&& (y.a ||| y.b)
 let t:=y.h+s1+ch+k+w
 ⟨t+s0+maj,y.a,y.b,y.c,y.d+t,y.e,y.f,y.g⟩
def Y1 (blk:Bs)(x:H8):Nat->H8
 | 0=>x
 | k+1=>round (jI.getD k 0) ((ws blk 64).getD k 0) (Y1 blk x k)
def H8.add (x y:H8):H8:=⟨x.a+y.a,x.b+y.b,x.c+y.c,x.d+y.d,x.e+y.e,x.f+y.f,x.g+y.g,x.h+y.h⟩
def tK (x y:H8)(i:Nat):List W32:=(x.add y).words.take i++x.words.drop i
theorem Rk (x y:H8):∀ i,i<8->(tK x y i).set i ((x.words.getD i 0)+(y.words.getD i 0))=tK x y (i+1)
 | 0,_|1,_|2,_|3,_|4,_|5,_|6,_|7,_=>rfl
theorem Rl (x y:H8):∀ i,i<8->(tK x y i)[i]?=some (x.words.getD i 0)
 | 0,_|1,_|2,_|3,_|4,_|5,_|6,_|7,_=>rfl
theorem OY (x y:H8):∀ i,i<=8->(tK x y i).length=8
 | 0,_|1,_|2,_|3,_|4,_|5,_|6,_|7,_|8,_=>rfl
theorem PP (y:H8):∀ i,i<8->y.words[i]?=some (y.words.getD i 0)
 | 0,_|1,_|2,_|3,_|4,_|5,_|6,_|7,_=>rfl
def wF (x:H8)(blk:Bs):H8:=x.add (Y1 blk x 64)
def iT (x:H8):Nat->Bs->H8
 | 0,_=>x
 | n+1,l=>iT (wF x (l.take 64)) n (l.drop 64)
def tL (x:W32):Bs:=[UInt8.ofNat (x.toNat / 16777216),UInt8.ofNat (x.toNat / 65536),UInt8.ofNat (x.toNat / 256),UInt8.ofNat x.toNat]
def H8.bytes (x:H8):Bs:=tL x.a++tL x.b++tL x.c++tL x.d++tL x.e++tL x.f++tL x.g++tL x.h
def eF (n:Nat):Bs:=[UInt8.ofNat (n / 72057594037927936),UInt8.ofNat (n / 281474976710656),UInt8.ofNat (n / 1099511627776),UInt8.ofNat (n / 4294967296),UInt8.ofNat (n / 16777216),UInt8.ofNat (n / 65536),UInt8.ofNat (n / 256),UInt8.ofNat n]
def zeros (n:Nat):Bs:=List.replicate n 0
def pad (s:Bs):Bs:=s++(128::zeros ((119-s.length%64)%64)++eF (8*s.length))
def JX (s:Bs):Bs:=(iT h0 ((pad s).length / 64) (pad s)).bytes
theorem _root_.dZ {p : Prop} [Decidable p] (h : ¬p) : decide p = false := decide_eq_false h
theorem _root_.dT {p : Prop} [Decidable p] (h : p) : decide p = true := decide_eq_true h
theorem _root_.nni {p : Prop} (h : p) : ¬¬p := not_not_intro h
theorem _root_.slr {α : Type _} {l : List α} : l.Sublist l := List.Sublist.refl l
theorem _root_.lla {α : Type _} {a b : List α} : (a ++ b).length = a.length+b.length := List.length_append
theorem _root_.llm {α β : Type _} (f : α → β) {l : List α} : (l.map f).length = l.length := List.length_map f
theorem _root_.bet (a b : Bool) : ((a&&b) = true) = (a = true ∧ b = true) := Bool.and_eq_true a b
theorem _root_.laa {α : Type _} (a b c : List α) : a ++ b ++ c = a ++ (b ++ c) := List.append_assoc a b c
theorem _root_.nlb {n m : Nat} (h : Nat.ble n m = true) : n ≤ m := Nat.le_of_ble_eq_true h
theorem _root_.lpr {α : Type _} {l : List α} : l.Perm l := List.Perm.refl l
end Tw
