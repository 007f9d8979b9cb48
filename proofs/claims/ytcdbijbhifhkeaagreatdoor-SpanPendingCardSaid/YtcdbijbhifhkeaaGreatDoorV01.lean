/- . -/
import Derived.KernelRfl
import Derived.WalkKit
import Derived.Maps.AppendAt
import Derived.Orders
import Derived.Scope
namespace Tw
theorem za {p:Prop}(h:p:=by (repeat refine ⟨rfl,?_⟩);exact trivial):p:=h
theorem zb {p:Prop}(h:p:=by repeat (first|exact List.nil_sublist _|exact List.Sublist.refl _|apply List.Sublist.cons_cons|apply List.Sublist.cons)):p:=h
abbrev Bs:=List UInt8
abbrev W32:=BitVec 32
def gQ:Nat:=16777215
def xJ (c:UInt8)(s:Bs):Bs:=
 c::UInt8.ofNat ((s.take gQ).length / 65536)::UInt8.ofNat ((s.take gQ).length / 256)::UInt8.ofNat (s.take gQ).length::s.take gQ
def aM:Nat->Nat->Bs
 | 0,_=>[]
 | f+1,n=>if n=0 then [] else aM f (n / 256)++[UInt8.ofNat n]
def digits (n:Nat):Bs:=aM 8 n
def QH (c:UInt8)(n:Nat):Bs:=xJ c (digits n)
def He (c:UInt8)(n:Int):Bs:=QH c n.toNat
structure H8 where
 a:W32
 b:W32
 c:W32
 d:W32
 e:W32
 f:W32
 g:W32
 h:W32
def H8.words (x:H8):List W32:=[x.a,x.b,x.c,x.d,x.e,x.f,x.g,x.h]
def oC (x:W32)(n:Nat):W32:=x >>> n ||| x <<< (32-n)
def xX:List W32:=[
  0x428a2f98,0x71374491,0xb5c0fbcf,0xe9b5dba5,0x3956c25b,0x59f111f1,0x923f82a4,0xab1c5ed5,
  0xd807aa98,0x12835b01,0x243185be,0x550c7dc3,0x72be5d74,0x80deb1fe,0x9bdc06a7,0xc19bf174,
  0xe49b69c1,0xefbe4786,0x0fc19dc6,0x240ca1cc,0x2de92c6f,0x4a7484aa,0x5cb0a9dc,0x76f988da,
  0x983e5152,0xa831c66d,0xb00327c8,0xbf597fc7,0xc6e00bf3,0xd5a79147,0x06ca6351,0x14292967,
  0x27b70a85,0x2e1b2138,0x4d2c6dfc,0x53380d13,0x650a7354,0x766a0abb,0x81c2c92e,0x92722c85,
  0xa2bfe8a1,0xa81a664b,0xc24b8b70,0xc76c51a3,0xd192e819,0xd6990624,0xf40e3585,0x106aa070,
  0x19a4c116,0x1e376c08,0x2748774c,0x34b0bcb5,0x391c0cb3,0x4ed8aa4a,0x5b9cca4f,0x682e6ff3,
  0x748f82ee,0x78a5636f,0x84c87814,0x8cc70208,0x90befffa,0xa4506ceb,0xbef9a3f7,0xc67178f2]
def h0:H8:=⟨0x6a09e667,0xbb67ae85,0x3c6ef372,0xa54ff53a,0x510e527f,0x9b05688c,0x1f83d9ab,0x5be0cd19⟩
def IA (b:UInt8):W32:=BitVec.ofNat 32 b.toNat
def MI (blk:Bs)(i:Nat):W32:=IA (blk.getD (4*i) 0) <<< 24 ||| IA (blk.getD (4*i+1) 0) <<< 16 ||| IA (blk.getD (4*i+2) 0) <<< 8 ||| IA (blk.getD (4*i+3) 0)
def DF (blk:Bs)(i:Nat):Nat->W32
 | 0=>0
 | j+1=>DF blk i j <<< 8 ||| IA (blk.getD (4*i+j) 0)
theorem a4W (blk:Bs)(i:Nat):DF blk i 4=MI blk i:=by
 simp only[DF,MI,BitVec.shiftLeft_or_distrib,<- BitVec.shiftLeft_add];simp
def a2H (x:W32):W32:=oC x 7 ^^^ oC x 18 ^^^ x >>> 3
def a2G (x:W32):W32:=oC x 17 ^^^ oC x 19 ^^^ x >>> 10
def Pb (l:List W32)(i:Nat):W32:=l.getD (i-16) 0+a2H (l.getD (i-15) 0)+l.getD (i-7) 0+a2G (l.getD (i-2) 0)
def ws (blk:Bs):Nat->List W32
 | 0=>[]
 | k+1=>ws blk k++[if k<16 then MI blk k else Pb (ws blk k) k]
def round (k w:W32)(y:H8):H8:=
 let s1:=oC y.e 6 ^^^ oC y.e 11 ^^^ oC y.e 25
 let s0:=oC y.a 2 ^^^ oC y.a 13 ^^^ oC y.a 22
 let ch:=y.g ^^^ y.e &&& (y.f ^^^ y.g)
 let maj:=y.a &&& y.b ||| y.c &&& (y.a ||| y.b)
 let t:=y.h+s1+ch+k+w
 ⟨t+s0+maj,y.a,y.b,y.c,y.d+t,y.e,y.f,y.g⟩
def CR (blk:Bs)(x:H8):Nat->H8
 | 0=>x
 | k+1=>round (xX.getD k 0) ((ws blk 64).getD k 0) (CR blk x k)
def H8.add (x y:H8):H8:=⟨x.a+y.a,x.b+y.b,x.c+y.c,x.d+y.d,x.e+y.e,x.f+y.f,x.g+y.g,x.h+y.h⟩
def BV (x y:H8)(i:Nat):List W32:=(x.add y).words.take i++x.words.drop i
theorem b3E (x y:H8):∀ i,i<8->(BV x y i).set i ((x.words.getD i 0)+(y.words.getD i 0))=BV x y (i+1)
 | 0,_|1,_|2,_|3,_|4,_|5,_|6,_|7,_=>rfl
theorem b3G (x y:H8):∀ i,i<8->(BV x y i)[i]?=some (x.words.getD i 0)
 | 0,_|1,_|2,_|3,_|4,_|5,_|6,_|7,_=>rfl
theorem b3F (x y:H8):∀ i,i<=8->(BV x y i).length=8
 | 0,_|1,_|2,_|3,_|4,_|5,_|6,_|7,_|8,_=>rfl
theorem Gb (y:H8):∀ i,i<8->y.words[i]?=some (y.words.getD i 0)
 | 0,_|1,_|2,_|3,_|4,_|5,_|6,_|7,_=>rfl
def OZ (x:H8)(blk:Bs):H8:=x.add (CR blk x 64)
def xG (x:H8):Nat->Bs->H8
 | 0,_=>x
 | n+1,l=>xG (OZ x (l.take 64)) n (l.drop 64)
def zX (x:W32):Bs:=[UInt8.ofNat (x.toNat / 16777216),UInt8.ofNat (x.toNat / 65536),UInt8.ofNat (x.toNat / 256),UInt8.ofNat x.toNat]
def H8.bytes (x:H8):Bs:=zX x.a++zX x.b++zX x.c++zX x.d++zX x.e++zX x.f++zX x.g++zX x.h
def vI (n:Nat):Bs:=[UInt8.ofNat (n / 72057594037927936),UInt8.ofNat (n / 281474976710656),UInt8.ofNat (n / 1099511627776),UInt8.ofNat (n / 4294967296),UInt8.ofNat (n / 16777216),UInt8.ofNat (n / 65536),UInt8.ofNat (n / 256),UInt8.ofNat n]
def zeros (n:Nat):Bs:=List.replicate n 0
def pad (s:Bs):Bs:=s++(128::zeros ((119-s.length%64)%64)++vI (8*s.length))
def QO (s:Bs):Bs:=(xG h0 ((pad s).length / 64) (pad s)).bytes
theorem _root_.dZ {p : Prop} [Decidable p] (h : ¬p) : decide p = false := decide_eq_false h
theorem _root_.dT {p : Prop} [Decidable p] (h : p) : decide p = true := decide_eq_true h
theorem _root_.nni {p : Prop} (h : p) : ¬¬p := not_not_intro h
theorem _root_.slr {α : Type _} {l : List α} : l.Sublist l := List.Sublist.refl l
theorem _root_.lla {α : Type _} {a b : List α} : (a ++ b).length = a.length+b.length := List.length_append
theorem _root_.llm {α β : Type _} (f : α → β) {l : List α} : (l.map f).length = l.length := List.length_map f
theorem _root_.bet (a b : Bool) : ((a&&b) = true) = (a = true ∧ b = true) := Bool.and_eq_true a b
theorem _root_.laa {α : Type _} (a b c : List α) : a ++ b ++ c = a ++ (b ++ c) := List.append_assoc a b c
theorem _root_.nlb {n m : Nat} (h : Nat.ble n m = true) : n ≤ m := Nat.le_of_ble_eq_true h
theorem _root_.lpr {α : Type _} {l : List α} : l.Perm l := List.Perm.refl l
end Tw

namespace Tw
open Go Go.RowKit
theorem _root_.kr {G : Prop} (i : G := by kernel_rfl) : G := i
theorem _root_.zf {p:Prop}(h:p:=by constructor<;>kernel_rfl):p:=h
theorem _root_.zg {p:Prop}(h:p:=by exact ⟨rfl,rfl,kr⟩):p:=h
theorem _root_.om {G : Prop} (i : G := by omega) : G := i
theorem _root_.dc {G : Prop} (i : G := by decide) : G := i
theorem _root_.sm {G : Prop} (i : G := by simp) : G := i
def y8 (b:UInt8):Value:=.int .u8 (b.toNat:Int)
abbrev sv (l:Bs):Value:=.string ⟨l.toArray⟩
def fl (vs:List Value):List Value:=vs.flatMap λv=>v.cells.toList
def st (vs:List Value):Value:=.agg (fl vs).toArray
@[simp] theorem a9d:fl []=[]:=rfl
@[simp] theorem OW (v:Value)(vs:List Value):fl (v::vs)=v.cells.toList++fl vs:=rfl
@[simp] theorem Bo (a b:List Value):fl (a++b)=fl a++fl b:=by simp[fl]
@[simp] theorem b7Y (vs:List Value):(st vs).cells=(fl vs).toArray:=rfl
def One (cs:List Value):Prop:=∀ v∈cs,v.oneCell'=true
theorem add_mid (b o j:Nat):(⟨b,o,none⟩:Addr).add j=⟨b,o+j,none⟩:=by unfold Addr.add;split <;> simp_all
inductive Piece where
 | var (g:Nat) (T:TypeId) (vs:List Value)
 | row (v:Value) (E:TypeId) (k:Nat) (vs:List Value)
 | raw (g:Nat) (T:TypeId) (C:List Value)
structure Base where
 w:World
 ok:Nat->Prop
 md:Nat->Prop
abbrev Ext (w w':World):Prop:=Below w.heap.size w w'
theorem Ext.trans' {a b c:World}(h:Ext a b)(k:Ext b c):Ext a c:=h.trans (k.mono h.size)
theorem GK {vs:List Value}{k:Nat}(h:∀ x∈vs,x.cells.size=k):(fl vs).length=vs.length*k:=by
 induction vs with
 | nil=>simp
 | cons v vs ih=>
  simp only[OW,List.length_append,List.length_cons,Array.length_toList];rw[ih (λx hx=>h x (by simp[hx])),h v sm,Nat.add_mul];omega
theorem a9b {vs:List Value}{i:Nat}(hi:i<vs.length):fl vs=fl (vs.take i)++vs[i].cells.toList++fl (vs.drop (i+1)):=by
 conv=>lhs;rw[<- List.take_append_drop i vs]
 rw[List.drop_eq_getElem_cons hi,Bo,OW,laa]
section
variable {s:Base} {ok:Nat->Prop} {m:List Piece} {w:World}
theorem Ext.drew (w:World):Ext w w.drew:=(Below.refl _ _).drew
theorem Ext.alloc (w:World)(o:Obj):Ext w (w.alloc o):=(Below.refl _ _).alloc (Nat.le_refl _) o
end
end Tw
namespace Tw
open Go Go.RowKit
abbrev Env:=List (Nat × Value)
def lk:Env->Nat->Option Value
 | [],_=>none
 | (t,v)::e,s=>bif Nat.beq t s then some v else lk e s
theorem qN {a b:Nat}(h:a≠b):Nat.beq a b=false:=by
 cases hb:Nat.beq a b with
 | false=>rfl
 | true=>exact absurd (Nat.eq_of_beq_eq_true hb) h
def ev (e:Env):Operand->Option Value
 | .tmp t=>lk e t
 | .const v=>some v
 | .global g=>some (.pointer (some ⟨g,0,none⟩))
 | .func f=>some (.func (.func f) #[] #[])
def evs (e:Env):List Operand->Option (List Value)
 | []=>some []
 | x::xs=>match ev e x,evs e xs with
  | some v,some vs=>some (v::vs)
  | _,_=>none
section
variable {P:Program} {N:Nat} {e:Env} {a:Act} {w:World} {Q:Exit->Act->World->Prop}
noncomputable def least {α:Type} (I:α->Act->World->Prop) (μ:α->Nat) (a:Act) (w:World):Nat:=
 Classical.epsilon λk=>(∃ x,μ x=k/\I x a w)/\∀ y,I y a w->k<=μ y
theorem Qd {α:Type}(I:α->Act->World->Prop)(μ:α->Nat)(a:Act)(w:World)(x:α)(h:I x a w) :
  (∃ x,μ x=least I μ a w/\I x a w)/\∀ y,I y a w->least I μ a w<=μ y:=by
 have hex:∃ k,(∃ x,μ x=k/\I x a w)/\∀ y,I y a w->k<=μ y:=by
  have:∀ n x,μ x<=n->I x a w->∃ k,(∃ x,μ x=k/\I x a w)/\∀ y,I y a w->k<=μ y:=by
   intro n
   induction n with
   | zero=>exact λx h1 h2=>⟨0,⟨x,om,h2⟩,λ_ _=>Nat.zero_le _⟩
   | succ n ih=>
    intro x h1 h2;by_cases hb:∃ y,μ y<μ x/\I y a w
    ·obtain⟨y,hy1,hy2⟩:=hb;exact ih y om hy2
    exact⟨μ x,⟨x,rfl,h2⟩,λy h4=>Nat.le_of_not_lt λh=>hb ⟨y,h,h4⟩⟩
  exact this _ x (Nat.le_refl _) h
 exact Classical.epsilon_spec hex
theorem wp_loop_ghost {c:Code}{α:Type}(I:α->Act->World->Prop)(μ:α->Nat)(x:α)(h0:I x a w)
  (round:∀ x a w,I x a w->c.wp P (Exit.then (λa' w'=>∃ y,μ y<μ x/\I y a' w') Q) a w):(Code.loop c).wp P Q a w:=by
 refine wp_loop (λa w=>∃ x,I x a w) (least I μ) ⟨x,h0⟩ ?_;rintro a w ⟨x1,h1⟩;obtain⟨⟨x2,hx2,h2⟩,_⟩:=Qd I μ a w x1 h1;refine wp_mono (round x2 a w h2) λex a' w' hx=>?_;cases ex <;> try exact hx
 obtain⟨y,hy1,hy2⟩:=hx;have:=(Qd I μ a' w' y hy2).2 y hy2;exact⟨⟨y,hy2⟩,om⟩
end
end Tw
namespace Tw
open Go Go.RowKit
section
variable {P:Program} {N:Nat} {ops:Array Oper} {Q:Exit->Act->World->Prop} {rest:List Oper} {e:Env} {w w':World} {d:Nat} {ty:TypeId} {pos:String} {af:Array Edge}
def arith:BinOp->Int->Int->Option Int
 | .add,a,b=>some (a+b)
 | .sub,a,b=>some (a-b)
 | .mul,a,b=>some (a*b)
 | _,_,_=>none
def cmp:BinOp->Int->Int->Option Bool
 | .lss,a,b=>some (decide (a<b))
 | .leq,a,b=>some (decide (a<=b))
 | .gtr,a,b=>some (decide (b<a))
 | .geq,a,b=>some (decide (b<=a))
 | .eql,a,b=>some (decide (a=b))
 | .neq,a,b=>some (decide (a≠b))
 | _,_,_=>none
theorem QV {op:BinOp}{T:TypeId}{k:IntKind}{a b c:Int}(h:arith op a b=some c):(binOp op T (.int k a) (.int k b)).run P w=.ok (.int k (k.wrap c)) w:=by
 cases op <;> (first|(cases h;done)|(injection h with h;subst h;simp[binOp,Op.intArith]))
theorem a3j {op:BinOp}{T:TypeId}{k:IntKind}{a b:Int}{c:Bool}(h:cmp op a b=some c):(binOp op T (.int k a) (.int k b)).run P w=.ok (.bool c) w:=by
 have hne:(a != b)=decide (a≠b):=by by_cases h:a=b <;> simp[h]
 have heq:(a == b)=decide (a=b):=by by_cases h:a=b <;> simp[h]
 cases op <;> (first|(cases h;done)|(injection h with h;subst h;simp only[binOp,Op.intCmp,ne_eq,not_true,if_false,hne,heq];rfl))
theorem PX {c:Int}(h1:-9223372036854775808<=c)(h2:c<=9223372036854775807):IntKind.i64.wrap c=c:=by
 rw[IntKind.wrap_i64];omega
def Cg:BinOp->Int->Int->Option Int
 | .quo,a,b=>some (a / b)
 | .rem,a,b=>some (a%b)
 | _,_,_=>none
theorem yQ (l:Bs):(⟨l.toArray⟩:ByteArray).size=l.length:=by simp[ByteArray.size]
theorem a1Q (l:Bs):(⟨l.toArray⟩:ByteArray).toList=l:=by simp
theorem b1P (a b:Bs):((⟨a.toArray⟩:ByteArray)++⟨b.toArray⟩)=⟨(a++b).toArray⟩:=by
 apply ByteArray.ext;simp
def blt (a b:Bs):Bool:=Op.bytesLess a b
def Xk:BinOp->Bs->Bs->Option Bool
 | .lss,a,b=>some (blt a b)
 | .leq,a,b=>some (blt a b || decide (a=b))
 | .gtr,a,b=>some (!(blt a b || decide (a=b)))
 | .geq,a,b=>some (!(blt a b))
 | .eql,a,b=>some (decide (a=b))
 | .neq,a,b=>some (decide (a≠b))
 | _,_,_=>none
end
end Tw
namespace Tw
open Go Go.RowKit
def TypeDesc.row:TypeDesc->Bool
 | .struct _|.array _ _=>true
 | _=>false
class Ty (P:Program)(T:TypeId)(a:outParam Bool)(k:outParam Nat):Prop where
 out:(P.underlying T).map TypeDesc.row=some a
 sz:(P.info? T).map (·.size)=some k
def structOf (P:Program)(S:TypeId):Option (List (TypeId × Nat × Nat)):=
 match P.underlying S with
 | some (.struct fs)=>fs.toList.mapM λf=>(P.info? f.type).map λi=>(f.type,f.offset,i.size)
 | _=>none
class TyS (P:Program)(S:TypeId)(l:outParam (List (TypeId × Nat × Nat))):Prop where
 out:structOf P S=some l
class TyA (P:Program)(A:TypeId)(n:outParam Nat)(E:outParam TypeId)(k:outParam Nat):Prop where
 out:P.underlying A=some (.array n E)
 sz:(P.info? E).map (·.size)=some k
class TyI (P:Program)(T:TypeId)(k:outParam IntKind):Prop where
 out:P.underlying T=some (.int k)
class TyT (P:Program)(T:TypeId):Prop where
 out:P.underlying T=some .string
class TyP (P:Program)(T:TypeId)(E:outParam TypeId):Prop where
 out:P.underlying T=some (.pointer E)
class TyL (P:Program)(S:TypeId)(E:outParam TypeId)(k:outParam Nat)(bytes:outParam Nat):Prop where
 out:P.underlying S=some (.slice E)
 sz:(P.info? E).map (λi=>(i.size,i.bytes))=some (k,bytes)
def takeC:List Value->Nat->Option (List Value)
 | _,0=>some []
 | [],_+1=>none
 | v::vs,k+1=>bif Nat.ble v.cells.size (k+1) then (match takeC vs (k+1-v.cells.size) with|some r=>some (v::r)|none=>none) else none
def xZ:Value->Bool
 | .agg _=>true
 | _=>false
section
variable {P:Program} {N:Nat} {ops:Array Oper} {Q:Exit->Act->World->Prop} {rest:List Oper} {e:Env} {w w':World} {d:Nat} {ty:TypeId} {pos:String} {af:Array Edge}
 {s:Base} {ok:Nat->Prop} {m:List Piece}
theorem WX {T:TypeId}{a:Bool}{k:Nat}(t:Ty P T a k):(isAgg T).run P w=.ok a w:=by
 obtain⟨h,_⟩:=t;cases hu:P.underlying T with
 | none=>simp[hu] at h
 | some dd=>
  simp[hu] at h;unfold isAgg;rw[Sem.run_bind,run_underlying hu w];cases dd <;> simp[TypeDesc.row] at h <;> subst h <;> rfl
theorem run_sizeOf {T:TypeId}{k:Nat}(h:(P.info? T).map (·.size)=some k):(Go.sizeOf T).run P w=.ok k w:=by
 cases hq:P.info? T with
 | none=>simp[hq] at h
 | some i=>
  simp[hq] at h;simp[Go.sizeOf,typeInfo,hq,h]
theorem WV {T:TypeId}{k:Nat}(hz:(P.info? T).map (·.size)=some k){g o:Nat}{T0:TypeId}{C:Array Value}{v:Value}(hb:w.heap[g]?=some (.cells C T0 (0,0)))(hk:v.cells.size=k)(ho:o+k<=C.size)(h1:One v.cells.toList) :
  (storeVar T ⟨g,o,none⟩ v).run P w=.ok () (w.setRow g (C.toList.take o++v.cells.toList++C.toList.drop (o+k)).toArray):=by
 have:=run_storeCells_at (P:=P) g o T0 v.cells.toList 0 C w hb (by simpa[hk] using ho) h1;simp only[Nat.add_zero,Array.length_toList,hk] at this;unfold storeVar;rw[Sem.run_bind,run_sizeOf hz];simp[hk,this]
theorem Pv {α β:Type}{f:α->Option β}:∀ {as:List α} {l:List β},as.mapM f=some l->as.length=l.length/\∀ (j:Nat) (b:β),l[j]?=some b->∃ a,as[j]?=some a/\f a=some b
 | [],l,h=>by simp at h;subst h;simp
 | a::as,l,h=>by
  simp only[List.mapM_cons] at h;cases hf:f a with
  | none=>simp[hf] at h
  | some y=>
   cases hr:as.mapM f with
   | none=>simp[hf,hr] at h
   | some r=>
    simp[hf,hr] at h;subst h;obtain⟨h1,h2⟩:=Pv hr;refine⟨by simp[h1],λj b hj=>?_⟩;cases j with
    | zero=>
     simp at hj;exact⟨a,rfl,by rw[hf,hj]⟩
    | succ j=>exact h2 j b (by simpa using hj)
theorem QK {S:TypeId}{l:List (TypeId × Nat × Nat)}(h:structOf P S=some l) :
  ∃ fs:Array Field,P.underlying S=some (.struct fs)/\fs.size=l.length/\∀ (i:Nat) (T off z:Nat),l[i]?=some (T,off,z)->∃ f,fs[i]?=some f/\f.type=T/\f.offset=off/\(P.info? T).map (·.size)=some z:=by
 unfold structOf at h;split at h
 ·rename_i fs hu;obtain⟨h1,h2⟩:=Pv h;refine⟨fs,hu,by simpa using h1,λi T off z hi=>?_⟩;obtain⟨f,hf1,hf2⟩:=h2 i _ hi;cases hq:P.info? f.type with
  | none=>simp[hq] at hf2
  | some inf=>
   simp[hq] at hf2;obtain⟨e1,e2,e3⟩:=hf2;refine⟨f,by rw[<- Array.getElem?_toList];exact hf1,e1,e2,?_⟩;rw[<- e1,hq,<- e3];rfl
 simp at h
end
end Tw
namespace Tw
open Go Go.RowKit
section
variable {P:Program} {N:Nat} {ops:Array Oper} {Q:Exit->Act->World->Prop} {rest:List Oper} {e:Env} {w w':World} {d:Nat} {ty:TypeId} {pos:String} {af:Array Edge}
 {s:Base} {ok:Nat->Prop} {m:List Piece}
def fits:Nat->List (TypeId × Nat × Nat)->List Value->Bool
 | _,[],[]=>true
 | o,f::l,z::zs=>Nat.beq f.2.1 o&&Nat.beq f.2.2 z.cells.size&&fits (o+z.cells.size) l zs
 | _,_,_=>false
class FnB (P:Program)(f:FuncId):Prop where
 out : (P.funcs[f]?).map (fun fn => fn.body.isSome && !(fn.name == "runtime.NumGoroutine")) = some true
theorem FnB.run {f:FuncId}(h:FnB P f)(args:Array Value)(w:World):(callFunc f args).run P w=.ok (.enter f args) w:=by
 have h:=h.out;cases hf:P.funcs[f]? with
 | none=>simp[hf] at h
 | some fn=>
  simp[hf] at h;have hb:fn.body≠none:=by intro h0;simp[h0] at h
  simp[callFunc,program,Sem.run,hf,hb,h.2]
def Ret (P:Program)(f:FuncId)(args:List Value)(w:World)(R:Value->World->Prop):Prop:=Calls P f args.toArray w λx w'=>∃ v,x=.returned v/\R v w'
theorem Ret.mono {f:FuncId}{args:List Value}{R R':Value->World->Prop}(h:Ret P f args w R)(hr:∀ v w',R v w'->R' v w'):Ret P f args w R':=
 Calls.mono h λ_ w' ⟨v,e,r⟩=>⟨v,e,hr v w' r⟩
section
variable {fn:Func} {R:Value->World->Prop}
end
end
end Tw
namespace Tw
open Go Go.RowKit
theorem foldl_set (off:Nat):∀ (v:List Value) (n:Nat) (cells:Array Value),off+n+v.length<=cells.size ->
  (v.zipIdx n).foldl (λ(cs:Array Value) (x:Value × Nat)=>cs.setIfInBounds (off+x.2) x.1) cells=(cells.toList.take (off+n)++v++cells.toList.drop (off+n+v.length)).toArray
 | [],n,cells,_=>by simp
 | c::v,n,cells,h=>by
  simp only[List.length_cons] at h;simp only[List.zipIdx_cons,List.foldl_cons];rw[foldl_set off v (n+1) _ (by simp;omega)];apply Array.ext';simp only[Array.toList_setIfInBounds,List.length_cons];have hlt:off+n<cells.toList.length:=by simp;omega
  rw[List.drop_set_of_lt om,show off+(n+1)=(off+n)+1 by omega,List.take_succ_eq_append_getElem (by simpa using hlt),List.take_set_of_le (Nat.le_refl _)];simp;omega
def pV:List Value->Nat->Value->Option (List Value)
 | [],_,_=>none
 | z::zs,0,v=>bif Nat.beq z.cells.size v.cells.size then some (v::zs) else none
 | z::zs,i+1,v=>(match pV zs i v with|some r=>some (z::r)|none=>none)
theorem Ig:∀ {zs:List Value} {i:Nat} {v:Value} {r:List Value},pV zs i v=some r->∃ z,zs[i]?=some z/\z.cells.size=v.cells.size/\r=zs.set i v
 | [],_,_,_,h=>by simp[pV] at h
 | z::zs,0,v,r,h=>by
  cases hb:Nat.beq z.cells.size v.cells.size with
  | false=>simp[pV,hb] at h
  | true=>
   simp[pV,hb] at h;subst h;exact⟨z,rfl,Nat.eq_of_beq_eq_true hb,rfl⟩
 | z::zs,i+1,v,r,h=>by
  unfold pV at h;cases hq:pV zs i v with
  | none=>simp[hq] at h
  | some p=>
   simp[hq] at h;subst h;obtain⟨y,h1,h2,h3⟩:=Ig hq;exact⟨y,by simpa using h1,h2,by rw[h3];rfl⟩
def xL (zs:List Value):List Nat->List Value->Option (List Value)
 | [],[]=>some zs
 | i::is,v::vs=>(match pV zs i v with
  | some zs'=>xL zs' is vs
  | none=>none)
 | _,_=>none
theorem a9c {zs:List Value}{i:Nat}(hi:i<zs.length)(v:Value):fl (zs.set i v)=fl (zs.take i)++v.cells.toList++fl (zs.drop (i+1)):=by
 rw[List.set_eq_take_append_cons_drop,if_pos hi,Bo,OW,laa]
theorem KQ {place:Nat->Option (Nat × Nat)}:∀ {is:List Nat} {vs zs rs:List Value},(∀ i z,zs[i]?=some z->place i=some ((fl (zs.take i)).length,z.cells.size))->xL zs is vs=some rs->Instr.fill place (fl zs).toArray (is.zip vs)=some (fl rs).toArray/\rs.length=zs.length
 | [],[],zs,rs,_,h=>by simp[xL] at h;subst h;simp[Instr.fill]
 | [],v::vs,zs,rs,_,h=>by simp[xL] at h
 | i::is,[],zs,rs,_,h=>by simp[xL] at h
 | i::is,v::vs,zs,rs,hp,h=>by
  unfold xL at h;cases hq:pV zs i v with
  | none=>simp[hq] at h
  | some zs'=>
    simp only[hq] at h;obtain⟨z,hz,hsz,rfl⟩:=Ig hq;obtain⟨hi,hzi⟩:=List.getElem?_eq_some_iff.1 hz;have hsplit:fl zs=fl (zs.take i)++z.cells.toList++fl (zs.drop (i+1)):=by rw[a9b hi,hzi]
    have ih:=KQ (place:=place) (is:=is) (vs:=vs) (zs:=zs.set i v) (rs:=rs) (by
     intro j u hj;by_cases hji:j=i
     ·subst hji;rw[List.getElem?_set_self hi] at hj;injection hj with hj
      subst hj;rw[hp j z hz,List.take_set_of_le (Nat.le_refl _),hsz]
     rw[List.getElem?_set_ne (λe=>hji e.symm)] at hj;rw[hp j u hj];congr 2
     rcases Nat.lt_or_ge i j with h1|h1
     ·have hjl:j<=zs.length:=Nat.le_of_lt (List.getElem?_eq_some_iff.1 hj).1;have e1:zs.take j=(zs.take i)++z::((zs.take j).drop (i+1)):=by
       conv=>lhs;rw[<- List.take_append_drop i (zs.take j)]
       rw[List.take_take,Nat.min_eq_left om,List.drop_eq_getElem_cons (by simp;omega)];simp[hzi]
      have e2:(zs.set i v).take j=(zs.take i)++v::((zs.take j).drop (i+1)):=by
       rw[List.take_set,List.set_eq_take_append_cons_drop,if_pos (by simp;omega),List.take_take,Nat.min_eq_left om]
      rw[e1,e2];simp[hsz]
     rw[List.take_set_of_le h1]) h
    simp only[List.zip_cons_cons,Instr.fill];rw[hp i z hz];simp only[hsz,ne_eq,not_true,decide_false,Bool.false_or];have hfit:(fl (zs.take i)).length+v.cells.size<=(fl zs).length:=by rw[hsplit];simp[hsz]
    rw[if_neg (by simp;omega)];have hfold:v.cells.zipIdx.foldl (λ(cs:Array Value) (x:Value × Nat)=>cs.setIfInBounds ((fl (zs.take i)).length+x.2) x.1) (fl zs).toArray=(fl (zs.set i v)).toArray:=by
     rw[<- Array.foldl_toList,Array.toList_zipIdx];rw[foldl_set _ _ 0 _ (by simpa using hfit)];simp only[Nat.add_zero];congr 1
     rw[a9c hi,hsplit];have e1:(fl (zs.take i)++z.cells.toList++fl (zs.drop (i+1))).take (fl (zs.take i)).length=fl (zs.take i):=by rw[laa,List.take_left]
     have e2:(fl (zs.take i)++z.cells.toList++fl (zs.drop (i+1))).drop ((fl (zs.take i)).length+v.cells.toList.length)=fl (zs.drop (i+1)):=by
      rw[show (fl (zs.take i)).length+v.cells.toList.length=(fl (zs.take i)++z.cells.toList).length by simp[hsz],List.drop_left]
     rw[e1,e2]
    rw[hfold];exact⟨ih.1,by rw[ih.2];simp⟩
section
variable {P:Program} {N:Nat} {ops:Array Oper} {Q:Exit->Act->World->Prop} {rest:List Oper} {e:Env} {w w':World} {d:Nat} {ty:TypeId} {pos:String} {af:Array Edge}
 {s:Base} {ok:Nat->Prop} {m:List Piece}
theorem Jf {α β:Type}{f:α->Sem β}{g:α->β}:∀ (l:List α),(∀ x∈l,(f x).run P w=.ok (g x) w)->(l.mapM f).run P w=.ok (l.map g) w
 | [],_=>by simp
 | x::l,h=>by
  have h1:=h x sm;have h2:=Jf l (λy hy=>h y (by simp[hy]));simp[List.mapM_cons,h1,h2]
theorem a3g {α β:Type}{f:α->Sem β}{g:α->β}(l:Array α)(h:∀ x∈l,(f x).run P w=.ok (g x) w):(l.mapM f).run P w=.ok (l.map g) w:=by
 have:=Jf (P:=P) (w:=w) (f:=f) (g:=g) l.toList (λx hx=>h x (by simpa using hx));rw[Array.mapM_eq_mapM_toList];simp[this];apply Array.ext';simp
end
end Tw
namespace Tw
open Go Go.RowKit
section
variable {P:Program} {N:Nat} {ops:Array Oper} {Q:Exit->Act->World->Prop} {rest:List Oper} {e:Env} {w w':World} {d:Nat} {ty:TypeId} {pos:String} {af:Array Edge}
 {s:Base} {ok:Nat->Prop} {m:List Piece}
end
end Tw
namespace Tw
open Go Go.RowKit
def LB:Value->Option UInt8
 | .int .u8 n=>some (UInt8.ofNat n.toNat)
 | _=>none
def nP:List Value->Option Bs
 | []=>some []
 | v::vs=>(match LB v,nP vs with|some b,some l=>some (b::l)|_,_=>none)
theorem Yy:∀ {cs:List Value} {l:Bs},nP cs=some l->∃ ns:List Int,cs=ns.map (Value.int .u8)/\l=ns.map λn=>UInt8.ofNat n.toNat
 | [],l,h=>⟨[],rfl,by simpa[nP] using h.symm⟩
 | v::vs,l,h=>by
  unfold nP at h;cases hb:LB v with
  | none=>simp[hb] at h
  | some b=>
   cases hr:nP vs with
   | none=>simp[hb,hr] at h
   | some r=>
    simp[hb,hr] at h;subst h;obtain⟨ns,h1,h2⟩:=Yy hr;unfold LB at hb;split at hb
    ·rename_i n;injection hb with hb
     exact⟨n::ns,by rw[h1];rfl,by rw[h2,<- hb];rfl⟩
    cases hb
section
variable {P:Program} {N:Nat} {ops:Array Oper} {Q:Exit->Act->World->Prop} {rest:List Oper} {e:Env} {w w':World} {d:Nat} {ty:TypeId} {pos:String} {af:Array Edge}
 {s:Base} {ok:Nat->Prop} {m:List Piece}
theorem TyL.size {S E:TypeId}{k bS:Nat}(t:TyL P S E k bS):(P.info? E).map (·.size)=some k:=by
 have:=t.sz;cases hq:P.info? E with
 | none=>simp[hq] at this
 | some i=>simp[hq] at this ⊢;exact this.1
theorem QU {sl:Bool}{n c lo hi:Nat}{vl vh:Option Value}(hl:(vl=none/\lo=0)\/∃ kd,vl=some (.int kd (lo:Int)))(hh:(vh=none/\hi=n)\/∃ kd,vh=some (.int kd (hi:Int)))(h1:lo<=hi)(h2:hi<=c) :
  (Instr.sliceBounds sl n c vl vh none).run P w=.ok (lo,hi,c) w:=by
 rcases hl with⟨rfl,rfl⟩|⟨kd,rfl⟩ <;> rcases hh with⟨rfl,rfl⟩|⟨kd',rfl⟩ <;> simp[Instr.sliceBounds,Instr.sliceBound,asIntOf,h1,h2]
end
end Tw
namespace Tw
open Go Go.RowKit
section
variable {s:Base} {ok:Nat->Prop} {m:List Piece} {w:World}
end
section
variable {P:Program} {N:Nat} {ops:Array Oper} {Q:Exit->Act->World->Prop} {rest:List Oper} {e:Env} {w w':World} {d:Nat} {ty:TypeId} {pos:String} {af:Array Edge}
 {s:Base} {ok:Nat->Prop} {m:List Piece}
theorem Ih {z v:Value}(h:z.cells.size=v.cells.size):∀ (a b:List Value),pV (a++z::b) a.length v=some (a++v::b)
 | [],b=>by
  have:Nat.beq z.cells.size v.cells.size=true:=by rw[h];exact Nat.beq_refl _
  simp[pV,this]
 | y::a,b=>by
  have:=Ih h a b;simp[pV,this]
theorem QP {z:Value}:∀ (vals done:List Value),(∀ v∈vals,z.cells.size=v.cells.size)->xL (done++List.replicate vals.length z) (List.range' done.length vals.length) vals=some (done++vals)
 | [],done,_=>by simp[xL]
 | v::vals,done,h=>by
  simp only[List.length_cons,List.replicate_succ,List.range'_succ,xL];rw[Ih (h v sm) done];have:=QP vals (done++[v]) (λu hu=>h u (by simp[hu]));simp only[List.length_append,List.length_singleton,List.append_assoc,List.singleton_append] at this;exact this
theorem UC (C:Array Value){v:Value}(hv:v.cells=C):∀ n:Nat,fl (List.replicate n v)=(List.range (n*C.size)).map λi=>C[i%C.size]!
 | 0=>by simp
 | n+1=>by
  rw[List.replicate_succ',Bo,UC C hv n,Nat.add_mul,Nat.one_mul,List.range_add,List.map_append,List.map_map];congr 1
  simp only[OW,a9d,List.append_nil,hv];apply List.ext_getElem
  ·simp
  intro i h1 h2;have hi:i<C.size:=by simpa using h1
  simp[Nat.mod_eq_of_lt hi,hi]
end
attribute [irreducible] Ret
end Tw

namespace Tw
open Go Go.RowKit
section
variable {listed:Array Bool}{i j:Nat}
def GQ (l:List Oper)(i:Nat):Option Nat:=(l[i]?).bind (·.dst)
def yD (l:List Oper)(i j:Nat):Bool:=((l[i]?).map λo=>o.after.toList.any λe=>Region.binds .any e&&Nat.beq e.on j).getD false
def Vt (l:List Oper)(i j:Nat):Bool:=yD l i j || (List.range i).any λk=>Nat.blt j k&&yD l k j
def TT:List Nat->Nat->Bool
 | [],_=>false
 | x::xs,n=>bif Nat.beq x n then true else TT xs n
theorem a7D {l:List Nat}{n:Nat}:TT l n=l.contains n:=by
 induction l with
 | nil=>rfl
 | cons x xs ih=>
  unfold TT;rw[List.contains_cons,ih];by_cases h:x=n
  ·subst h;simp
  rw[qN h];simp[Ne.symm h]
def rJ (l:List Oper)(o:Oper):List Nat:=
 (o.op.operands.toList.filterMap fun|.tmp t=>some t|_=>none)++(match o.guard with|some (g,_)=>(GQ l g).toList|none=>[])
def kJ (l:List Oper):Nat->Nat->Nat->Bool
 | 0,j,i=>yD l j i
 | n+1,j,i=>yD l j i || (List.range j).any λk=>yD l j k&&kJ l n k i
section
variable {P:Program} {N:Nat} {Q:Exit->Act->World->Prop} {e:Env} {w:World} {s:Base} {ok:Nat->Prop} {m0:List Piece}
theorem a1h {o:Oper}{a:Act}{K:Act->World->Prop}(h:o.wp P a w K Q):o.wp P a w (λa' w'=>K a' w'/\((∃ v,a'=a.put o.dst v)\/a'.defers≠[])) Q:=by
 unfold Oper.wp at *;generalize hr:(execOp a.eval o).run P w=r at *;cases r with
 | ok n w'=>
  cases n <;> simp only[Oper.upon] at h ⊢
  case value v=>exact⟨h,.inl ⟨v,rfl⟩⟩
  case skip=>exact⟨h,.inl ⟨_,rfl⟩⟩
  case defer d=>exact⟨h,.inr (by cases o.dst <;> simp[Act.put])⟩
  case enter f args=>exact Calls.mono h (λx w'' hx=>by cases x <;> first|exact⟨hx,.inl ⟨_,rfl⟩⟩|exact hx)
  case row row args=>exact Rows.mono h (λv w'' hx=>⟨hx,.inl ⟨v,rfl⟩⟩)
 | halt x w'=>cases x <;> simp only[Oper.upon] at h ⊢ <;> exact h
theorem Wy {p p':Nat->Bool}{i:Nat}(hp:p i=true)(hp':p' i=false):∀ {L:List Nat},i∈L->(∀ j∈L,p' j=true->p j=true)->L.countP p'+1<=L.countP p
 | [],h,_=>by simp at h
 | j::L,h,hs=>by
  have hle:L.countP p'<=L.countP p:=List.countP_mono_left λx hx h=>hs x (by simp[hx]) h;by_cases hj:j=i
  ·subst hj;simp[hp,hp'];exact hle
  have h1:=Wy hp hp' (L:=L) (by simpa[Ne.symm hj] using h) (λx hx=>hs x (by simp[hx]));have h2:=hs j sm;simp only[List.countP_cons];cases h3:p' j
  ·simp;omega
  simp[h2 h3];omega
def left (n:Nat)(listed:Array Bool):Nat:=(List.range n).countP λj=>!listed.getD j true
theorem a6t {n:Nat}(hs:listed.size=n)(hi:i<n)(hl:listed.getD i true=false):left n (listed.setIfInBounds i true)+1<=left n listed:=by
 refine Wy (i:=i) (by simpa using hl) ?_ (by simpa using hi) λj hj h=>?_
 ·simp[Array.getD,hs,hi]
 by_cases hji:i=j
 ·subst hji;simpa using hl
 simpa[Array.getD_eq_getD_getElem?,Array.getElem?_setIfInBounds_ne hji] using h
theorem a7P (hi:i<listed.size):(listed.setIfInBounds i true).getD j true=if i=j then true else listed.getD j true:=by
 by_cases h:i=j
 ·subst h;simp[Array.getD,hi]
 simp[Array.getD_eq_getD_getElem?,Array.getElem?_setIfInBounds_ne h,h]
theorem Ch {l:List Oper}(hr:i∈Region.ready .any l.toArray listed)(hd:yD l i j=true):listed.getD j false=true:=by
 obtain⟨_,o,ho,h⟩:=mem_ready.1 hr;have ho:l[i]?=some o:=by simpa using ho
 simp only[yD,ho,Option.map_some,Option.getD_some,List.any_eq_true] at hd;obtain⟨x,hx,hb⟩:=hd;simp only[Bool.and_eq_true] at hb;have:=h x (by simpa using hx) hb.1
 rwa [Nat.eq_of_beq_eq_true hb.2] at this
theorem EI (hj:j<listed.size)(b c:Bool):listed.getD j b=listed.getD j c:=by simp[Array.getD,hj]
theorem closed {l:List Oper}{i:Nat}{listed:Array Bool}(hsz:listed.size=l.length)(hi:i∈Region.ready .any l.toArray listed)(hcl:∀ k j,k<l.length->listed.getD k true=true->yD l k j=true->listed.getD j true=true)
  (hin:i<l.length) (h2:∀ j,j<i->Vt l i j=true):∀ (n j:Nat),i-j<=n->j<i->listed.getD j true=true
 | 0,j,h,hj=>by omega
 | n+1,j,h,hj=>by
  have hd:=h2 j hj;unfold Vt at hd;rw[Bool.or_eq_true] at hd;rcases hd with hd|hd
  ·rw[EI om true false];exact Ch hi hd
  obtain⟨k,hk,hk2⟩:=List.any_eq_true.1 hd;simp only[Bool.and_eq_true] at hk2;have hki:k<i:=by simpa using hk
  have hjk:j<k:=nlb hk2.1;exact hcl k j om (closed hsz hi hcl hin h2 n k om hki) hk2.2
theorem RL {l:List Oper}{listed:Array Bool}(hsz:listed.size=l.length)(hcl:∀ k j,k<l.length->listed.getD k true=true->yD l k j=true->listed.getD j true=true):∀ {n j i:Nat},j<l.length->listed.getD j true=true->kJ l n j i=true->listed.getD i true=true
 | 0,j,i,hj,hl,h=>hcl j i hj hl h
 | n+1,j,i,hj,hl,h=>by
  unfold kJ at h;rw[Bool.or_eq_true] at h;rcases h with h|h
  ·exact hcl j i hj hl h
  obtain⟨k,hk,hk2⟩:=List.any_eq_true.1 h;simp only[Bool.and_eq_true] at hk2;have hkj:k<j:=by simpa using hk
  exact RL hsz hcl om (hcl j k hj hl hk2.1) hk2.2
end
end

section
variable {P:Program} {N:Nat} {ops:Array Oper} {Q:Exit->Act->World->Prop} {rest:List Oper} {e:Env} {w w':World} {d:Nat} {ty:TypeId} {pos:String} {af:Array Edge} {s:Base} {ok:Nat->Prop} {m:List Piece}
def yC:BinOp->Bool->Option Bool
 | .eql,b=>some b
 | .neq,b=>some (!b)
 | _,_=>none
end

section
variable {P:Program} {N:Nat} {ops:Array Oper} {Q:Exit->Act->World->Prop} {rest:List Oper} {e:Env} {w w':World} {d:Nat} {ty:TypeId} {pos:String} {af:Array Edge} {s:Base} {ok:Nat->Prop} {m:List Piece}
end
def dU (x:W32):Value:=.int .u32 (x.toNat:Int)
theorem wrap_u32 (n:Nat):IntKind.u32.wrap (n:Int)=((BitVec.ofNat 32 n).toNat:Int):=by
 rw[IntKind.wrap_u32,BitVec.toNat_ofNat];omega
theorem a5q (x:W32):BitVec.ofInt IntKind.u32.bits (x.toNat:Int)=x:=by
 show BitVec.ofInt 32 _=x;rw[BitVec.ofInt_natCast];simp
section
variable {P:Program} {N:Nat} {ops:Array Oper} {Q:Exit->Act->World->Prop} {rest:List Oper} {e:Env} {w w':World} {d:Nat} {ty:TypeId} {pos:String} {af:Array Edge} {s:Base} {ok:Nat->Prop} {m:List Piece}
def b1m:BinOp->W32->W32->Option W32
 | .and,a,b=>some (a &&& b)
 | .or,a,b=>some (a ||| b)
 | .xor,a,b=>some (a ^^^ b)
 | _,_,_=>none
end
end Tw
