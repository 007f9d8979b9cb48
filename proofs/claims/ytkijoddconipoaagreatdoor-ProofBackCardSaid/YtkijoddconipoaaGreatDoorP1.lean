/- The older engine: frames, operations, regions that draw. -/
import Derived.WalkKit
import Derived.Maps.AppendAt
import Derived.Orders
import Derived.Scope
namespace Tw
abbrev Bs := List UInt8
abbrev W32 := BitVec 32

/-! ### layer 1 -/
def bodyLen : Nat := 16777215
def tlvText (c : UInt8) (s : Bs) : Bs :=
  c :: UInt8.ofNat ((s.take bodyLen).length / 65536) :: UInt8.ofNat ((s.take bodyLen).length / 256) :: UInt8.ofNat (s.take bodyLen).length :: s.take bodyLen
def digitsF : Nat → Nat → Bs
  | 0, _ => []
  | f + 1, n => if n = 0 then [] else digitsF f (n / 256) ++ [UInt8.ofNat n]
def digits (n : Nat) : Bs := digitsF 8 n
def tlvNum (c : UInt8) (n : Nat) : Bs := tlvText c (digits n)
def tlvInt (c : UInt8) (n : Int) : Bs := tlvNum c n.toNat
def tlvAll (c : UInt8) (l : List Bs) : Bs := tlvText c (l.flatMap (tlvText c))

/-! ### layer 2 -/
structure H8 where
  a : W32
  b : W32
  c : W32
  d : W32
  e : W32
  f : W32
  g : W32
  h : W32
def H8.words (x : H8) : List W32 := [x.a, x.b, x.c, x.d, x.e, x.f, x.g, x.h]
def rotr (x : W32) (n : Nat) : W32 := x >>> n ||| x <<< (32 - n)
def kTab : List W32 := [
    0x428a2f98, 0x71374491, 0xb5c0fbcf, 0xe9b5dba5, 0x3956c25b, 0x59f111f1, 0x923f82a4, 0xab1c5ed5,
    0xd807aa98, 0x12835b01, 0x243185be, 0x550c7dc3, 0x72be5d74, 0x80deb1fe, 0x9bdc06a7, 0xc19bf174,
    0xe49b69c1, 0xefbe4786, 0x0fc19dc6, 0x240ca1cc, 0x2de92c6f, 0x4a7484aa, 0x5cb0a9dc, 0x76f988da,
    0x983e5152, 0xa831c66d, 0xb00327c8, 0xbf597fc7, 0xc6e00bf3, 0xd5a79147, 0x06ca6351, 0x14292967,
    0x27b70a85, 0x2e1b2138, 0x4d2c6dfc, 0x53380d13, 0x650a7354, 0x766a0abb, 0x81c2c92e, 0x92722c85,
    0xa2bfe8a1, 0xa81a664b, 0xc24b8b70, 0xc76c51a3, 0xd192e819, 0xd6990624, 0xf40e3585, 0x106aa070,
    0x19a4c116, 0x1e376c08, 0x2748774c, 0x34b0bcb5, 0x391c0cb3, 0x4ed8aa4a, 0x5b9cca4f, 0x682e6ff3,
    0x748f82ee, 0x78a5636f, 0x84c87814, 0x8cc70208, 0x90befffa, 0xa4506ceb, 0xbef9a3f7, 0xc67178f2]
def h0 : H8 := ⟨0x6a09e667, 0xbb67ae85, 0x3c6ef372, 0xa54ff53a, 0x510e527f, 0x9b05688c, 0x1f83d9ab, 0x5be0cd19⟩
def b32 (b : UInt8) : W32 := BitVec.ofNat 32 b.toNat
def wordAt (blk : Bs) (i : Nat) : W32 := b32 (blk.getD (4 * i) 0) <<< 24 ||| b32 (blk.getD (4 * i + 1) 0) <<< 16 ||| b32 (blk.getD (4 * i + 2) 0) <<< 8 ||| b32 (blk.getD (4 * i + 3) 0)
/-- .. as it comes about byte by byte -/
def partW (blk : Bs) (i : Nat) : Nat → W32
  | 0 => 0
  | j + 1 => partW blk i j <<< 8 ||| b32 (blk.getD (4 * i + j) 0)
theorem partW_four (blk : Bs) (i : Nat) : partW blk i 4 = wordAt blk i := by
  simp only [partW, wordAt, BitVec.shiftLeft_or_distrib, ← BitVec.shiftLeft_add]
  simp
def sig0 (x : W32) : W32 := rotr x 7 ^^^ rotr x 18 ^^^ x >>> 3
def sig1 (x : W32) : W32 := rotr x 17 ^^^ rotr x 19 ^^^ x >>> 10
def nextW (l : List W32) (i : Nat) : W32 := l.getD (i - 16) 0 + sig0 (l.getD (i - 15) 0) + l.getD (i - 7) 0 + sig1 (l.getD (i - 2) 0)
/-- the first k words of a block -/
def ws (blk : Bs) : Nat → List W32
  | 0 => []
  | k + 1 => ws blk k ++ [if k < 16 then wordAt blk k else nextW (ws blk k) k]
def round (k w : W32) (y : H8) : H8 :=
  let s1 := rotr y.e 6 ^^^ rotr y.e 11 ^^^ rotr y.e 25
  let s0 := rotr y.a 2 ^^^ rotr y.a 13 ^^^ rotr y.a 22
  let ch := y.g ^^^ y.e &&& (y.f ^^^ y.g)
  let maj := y.a &&& y.b ||| y.c &&& (y.a ||| y.b)
  let t := y.h + s1 + ch + k + w
  ⟨t + s0 + maj, y.a, y.b, y.c, y.d + t, y.e, y.f, y.g⟩
def roundsTo (blk : Bs) (x : H8) : Nat → H8
  | 0 => x
  | k + 1 => round (kTab.getD k 0) ((ws blk 64).getD k 0) (roundsTo blk x k)
def H8.add (x y : H8) : H8 := ⟨x.a + y.a, x.b + y.b, x.c + y.c, x.d + y.d, x.e + y.e, x.f + y.f, x.g + y.g, x.h + y.h⟩
/-- .. the first i of the eight -/
def addTo (x y : H8) (i : Nat) : List W32 := (x.add y).words.take i ++ x.words.drop i
theorem addTo_next (x y : H8) : ∀ i, i < 8 → (addTo x y i).set i ((x.words.getD i 0) + (y.words.getD i 0)) = addTo x y (i + 1)
  | 0, _ | 1, _ | 2, _ | 3, _ | 4, _ | 5, _ | 6, _ | 7, _ => rfl
theorem addTo_get (x y : H8) : ∀ i, i < 8 → (addTo x y i)[i]? = some (x.words.getD i 0)
  | 0, _ | 1, _ | 2, _ | 3, _ | 4, _ | 5, _ | 6, _ | 7, _ => rfl
theorem addTo_len (x y : H8) : ∀ i, i ≤ 8 → (addTo x y i).length = 8
  | 0, _ | 1, _ | 2, _ | 3, _ | 4, _ | 5, _ | 6, _ | 7, _ | 8, _ => rfl
theorem words_get (y : H8) : ∀ i, i < 8 → y.words[i]? = some (y.words.getD i 0)
  | 0, _ | 1, _ | 2, _ | 3, _ | 4, _ | 5, _ | 6, _ | 7, _ => rfl
def compress (x : H8) (blk : Bs) : H8 := x.add (roundsTo blk x 64)
def absorb (x : H8) : Nat → Bs → H8
  | 0, _ => x
  | n + 1, l => absorb (compress x (l.take 64)) n (l.drop 64)
def wbytes (x : W32) : Bs := [UInt8.ofNat (x.toNat / 16777216), UInt8.ofNat (x.toNat / 65536), UInt8.ofNat (x.toNat / 256), UInt8.ofNat x.toNat]
def H8.bytes (x : H8) : Bs := wbytes x.a ++ wbytes x.b ++ wbytes x.c ++ wbytes x.d ++ wbytes x.e ++ wbytes x.f ++ wbytes x.g ++ wbytes x.h
def be64 (n : Nat) : Bs := [UInt8.ofNat (n / 72057594037927936), UInt8.ofNat (n / 281474976710656), UInt8.ofNat (n / 1099511627776), UInt8.ofNat (n / 4294967296), UInt8.ofNat (n / 16777216), UInt8.ofNat (n / 65536), UInt8.ofNat (n / 256), UInt8.ofNat n]
def zeros (n : Nat) : Bs := List.replicate n 0
def pad (s : Bs) : Bs := s ++ (128 :: zeros ((119 - s.length % 64) % 64) ++ be64 (8 * s.length))
def sha (s : Bs) : Bs := (absorb h0 ((pad s).length / 64) (pad s)).bytes
end Tw

namespace Tw
theorem absorb_succ : ∀ (n : Nat) (x : H8) (l : Bs), absorb x (n + 1) l = compress (absorb x n l) ((l.drop (64 * n)).take 64)
  | 0, x, l => by simp [absorb]
  | n + 1, x, l => by
    rw [absorb, absorb_succ n, absorb]
    simp only [List.drop_drop]
    rw [show 64 * (n + 1) = 64 + 64 * n by omega]
theorem absorb_ext : ∀ (n : Nat) (x : H8) (l l' : Bs), l.take (64 * n) = l'.take (64 * n) → absorb x n l = absorb x n l'
  | 0, x, l, l', _ => rfl
  | n + 1, x, l, l', h => by
    have h1 : l.take 64 = l'.take 64 := by
      have := congrArg (List.take 64) h
      rwa [List.take_take, List.take_take, Nat.min_eq_left (by omega)] at this
    have h2 : (l.drop 64).take (64 * n) = (l'.drop 64).take (64 * n) := by
      have := congrArg (List.drop 64) h
      rwa [List.drop_take, List.drop_take, show 64 * (n + 1) - 64 = 64 * n by omega] at this
    rw [absorb, absorb, h1, absorb_ext n _ _ _ h2]
/-- a hasher that has taken M -/
structure HS (M : Bs) (x : H8) (buf : Bs) : Prop where
  len : buf.length = 64
  x : x = absorb h0 (M.length / 64) M
  buf : buf.take (M.length % 64) = M.drop (64 * (M.length / 64))
theorem HS.nil : HS [] h0 (zeros 64) := ⟨rfl, rfl, rfl⟩
def into (buf : Bs) (at_ : Nat) (s : Bs) : Bs := buf.take at_ ++ s ++ buf.drop (at_ + s.length)
theorem into_len {buf s : Bs} {at_ : Nat} (h : at_ + s.length ≤ buf.length) : (into buf at_ s).length = buf.length := by
  simp [into]; omega
theorem HS.full {M s buf : Bs} {x : H8} (h : HS M x buf) (hs : M.length % 64 + s.length = 64) : HS (M ++ s) (compress x (into buf (M.length % 64) s)) (into buf (M.length % 64) s) := by
  have hl := h.len
  have e1 : (M ++ s).length / 64 = M.length / 64 + 1 := by rw [List.length_append]; omega
  have e2 : (M ++ s).length % 64 = 0 := by rw [List.length_append]; omega
  have e3 : into buf (M.length % 64) s = M.drop (64 * (M.length / 64)) ++ s := by
    unfold into
    rw [h.buf, List.drop_of_length_le (l := buf) (by omega), List.append_nil]
  refine ⟨by rw [into_len (by omega)]; exact hl, ?_, ?_⟩
  · rw [e1, absorb_succ, h.x]
    congr 1
    · apply absorb_ext
      rw [List.take_append_of_le_length (by omega)]
    · rw [e3, List.drop_append_of_le_length (by omega), List.take_of_length_le]
      simp; omega
  · rw [e2, e1, List.take_zero, List.drop_of_length_le]
    simp; omega
theorem HS.part {M s buf : Bs} {x : H8} (h : HS M x buf) (hs : M.length % 64 + s.length < 64) : HS (M ++ s) x (into buf (M.length % 64) s) := by
  have hl := h.len
  have e1 : (M ++ s).length / 64 = M.length / 64 := by rw [List.length_append]; omega
  have e2 : (M ++ s).length % 64 = M.length % 64 + s.length := by rw [List.length_append]; omega
  refine ⟨by rw [into_len (by omega)]; exact hl, ?_, ?_⟩
  · rw [e1, h.x]
    apply absorb_ext
    rw [List.take_append_of_le_length (by omega)]
  · rw [e1, e2, List.drop_append_of_le_length (by omega), ← h.buf]
    unfold into
    have hb : (buf.take (M.length % 64)).length = M.length % 64 := by simp; omega
    rw [List.take_append_of_le_length (by rw [List.length_append, hb]; omega), List.take_of_length_le (by rw [List.length_append, hb]; omega)]
theorem H8.bytes_len (x : H8) : x.bytes.length = 32 := rfl
theorem sha_len (s : Bs) : (sha s).length = 32 := rfl
theorem be64_get (N : Nat) : ∀ i, i < 8 → (be64 N)[7 - i]? = some (UInt8.ofNat (N / 2 ^ (8 * i)))
  | 0, _ => by simp [be64]
  | 1, _ | 2, _ | 3, _ | 4, _ | 5, _ | 6, _ | 7, _ => rfl
theorem bytes_get (x : H8) : ∀ i, i < 32 → x.bytes[i]? = some (UInt8.ofNat ((x.words.getD (i / 4) 0).toNat / 2 ^ (24 - 8 * (i % 4))))
  | 3, _ | 7, _ | 11, _ | 15, _ | 19, _ | 23, _ | 27, _ | 31, _ => by simp [H8.bytes, wbytes, H8.words]
  | 0, _ | 1, _ | 2, _ | 4, _ | 5, _ | 6, _ | 8, _ | 9, _ | 10, _ | 12, _ | 13, _ | 14, _ | 16, _ | 17, _ | 18, _ | 20, _ | 21, _ | 22, _ | 24, _ | 25, _ | 26, _ | 28, _ | 29, _ | 30, _ => rfl
  | n + 32, h => absurd h (by omega)
/-- the padded text, once it is all taken -/
theorem sha_of {M : Bs} {x : H8} {buf : Bs} (h : HS (pad M) x buf) : x.bytes = sha M := by rw [h.x]; rfl
end Tw

namespace Tw
open Go Go.RowKit

/-- a byte as a value -/
def u8v (b : UInt8) : Value := .int .u8 (b.toNat : Int)
/-- a text as a value -/
abbrev sv (l : Bs) : Value := .string ⟨l.toArray⟩
/-- the cells of some values, one behind the other -/
def fl (vs : List Value) : List Value := vs.flatMap fun v => v.cells.toList
/-- a struct, or an array, of these parts -/
def st (vs : List Value) : Value := .agg (fl vs).toArray

@[simp] theorem fl_nil : fl [] = [] := rfl
@[simp] theorem fl_cons (v : Value) (vs : List Value) : fl (v :: vs) = v.cells.toList ++ fl vs := rfl
@[simp] theorem fl_append (a b : List Value) : fl (a ++ b) = fl a ++ fl b := by simp [fl]
@[simp] theorem st_cells (vs : List Value) : (st vs).cells = (fl vs).toArray := rfl

/-- one cell each -/
def One (cs : List Value) : Prop := ∀ v ∈ cs, v.oneCell' = true
/-- every cell of every part is one cell -/
def Good (vs : List Value) : Prop := One (fl vs)

theorem add_mid (b o j : Nat) : (⟨b, o, none⟩ : Addr).add j = ⟨b, o + j, none⟩ := by unfold Addr.add; split <;> simp_all

/-- the cells cs lie in block b from o on -/
def Rg (w : World) (b o : Nat) (cs : List Value) : Prop :=
  ∃ C T fr, w.heap[b]? = some (.cells C T fr) ∧ (C.toList.drop o).take cs.length = cs

theorem Rg.cell {w : World} {b o : Nat} {cs : List Value} (h : Rg w b o cs) {j : Nat} {v : Value} (hv : cs[j]? = some v) : w.cell? ⟨b, o + j, none⟩ = some v := by
  obtain ⟨C, T, fr, hb, he⟩ := h
  rw [cell_of_row w b (o + j) C T fr hb]
  have hj : j < cs.length := (List.getElem?_eq_some_iff.1 hv).1
  rw [← he, List.getElem?_take_of_lt hj, List.getElem?_drop] at hv
  simpa using hv
theorem Rg.lt {w : World} {b o : Nat} {cs : List Value} (h : Rg w b o cs) : b < w.heap.size := by
  obtain ⟨C, T, fr, hb, _⟩ := h
  exact (Array.getElem?_eq_some_iff.1 hb).1
theorem Rg.sub {w : World} {b o : Nat} {cs : List Value} (h : Rg w b o cs) (i n : Nat) : Rg w b (o + i) ((cs.drop i).take n) := by
  obtain ⟨C, T, fr, hb, he⟩ := h
  refine ⟨C, T, fr, hb, ?_⟩
  have e1 : (C.toList.drop (o + i)).take (cs.length - i) = cs.drop i := by
    rw [← List.drop_drop]
    conv => rhs; rw [← he]
    rw [List.drop_take]
  have e2 : (cs.drop i).take n = ((cs.drop i).take n).take ((cs.drop i).take n).length := by rw [List.take_length]
  have e3 : ((cs.drop i).take n).length ≤ cs.length - i := by simp; omega
  calc (C.toList.drop (o + i)).take ((cs.drop i).take n).length
      = ((C.toList.drop (o + i)).take (cs.length - i)).take ((cs.drop i).take n).length := by rw [List.take_take, Nat.min_eq_left e3]
    _ = (cs.drop i).take ((cs.drop i).take n).length := by rw [e1]
    _ = (cs.drop i).take n := by
      rw [List.length_take, ← List.length_take, List.length_take]
      rcases Nat.le_total n (cs.drop i).length with h1 | h1
      · rw [Nat.min_eq_left h1]
      · rw [Nat.min_eq_right h1, List.take_of_length_le h1, List.take_of_length_le (Nat.le_refl _)]

/-- a list in the midst of another -/
theorem drop_take_mid {α : Type} (a b c : List α) : ((a ++ b ++ c).drop a.length).take b.length = b := by
  rw [List.append_assoc, List.drop_left]; simp
theorem Rg.mid {w : World} {b o : Nat} {x y z : List Value} (h : Rg w b o (x ++ y ++ z)) : Rg w b (o + x.length) y := by
  have := h.sub x.length y.length
  rwa [drop_take_mid] at this
theorem Rg.of_block {w : World} {b : Nat} {cs : List Value} {T : TypeId} {fr : Nat × Nat} (h : w.heap[b]? = some (.cells cs.toArray T fr)) : Rg w b 0 cs :=
  ⟨_, T, fr, h, by simp⟩

/-- loading a row of cells -/
theorem run_loadCells_rg {P : Program} {w : World} {b o : Nat} {cs : List Value} (h : Rg w b o cs) : (loadCells ⟨b, o, none⟩ cs.length).run P w = .ok cs.toArray w :=
  run_loadCells_list (P := P) w ⟨b, o, none⟩ cs (fun j v hv => by rw [add_mid]; exact h.cell hv)

/-! ### What a call owns, and may write -/
inductive Piece where
  | var (g : Nat) (T : TypeId) (vs : List Value)
  | row (v : Value) (E : TypeId) (k : Nat) (vs : List Value)
  | raw (g : Nat) (T : TypeId) (C : List Value)

def Piece.blk : Piece → Option Nat
  | .var g _ _ => some g
  | .raw g _ _ => some g
  | .row v _ _ _ => v.ownBlock

def Piece.at_ (w : World) : Piece → Prop
  | .var g T vs => w.heap[g]? = some (.cells (fl vs).toArray T (0, 0)) ∧ Good vs
  | .raw g T C => w.heap[g]? = some (.cells C.toArray T (0, 0))
  | .row v E k vs => w.ownsRow 0 E k v vs.length (fl vs) ∧ Good vs ∧ ∀ x ∈ vs, x.cells.size = k

structure Base where
  w : World
  ok : Nat → Prop
  md : Nat → Prop

structure St (s : Base) (ok : Nat → Prop) (m : List Piece) (w : World) : Prop where
  os : w.os = s.w.os
  tape : w.tape = s.w.tape
  output : w.output = s.w.output
  size : s.w.heap.size ≤ w.heap.size
  old : ∀ b, b < s.w.heap.size → ¬ s.md b → w.heap[b]? = s.w.heap[b]?
  sub : ∀ b, ok b → s.ok b
  fresh : ∀ b, w.heap.size ≤ b → ok b
  at_ : ∀ p ∈ m, p.at_ w
  own : ∀ p ∈ m, ∀ g, p.blk = some g → g < w.heap.size ∧ ¬ ok g ∧ (s.w.heap.size ≤ g ∨ s.md g)
  dis : m.Pairwise fun p q => ∀ g, p.blk = some g → q.blk ≠ some g

/-- data of ok blocks is carried from w to w' -/
structure Stp (ok : Nat → Prop) (w : World) (ok' : Nat → Prop) (w' : World) : Prop where
  size : w.heap.size ≤ w'.heap.size
  keep : ∀ b, b < w.heap.size → ok b → w'.heap[b]? = w.heap[b]? ∧ ok' b

theorem Stp.refl (ok : Nat → Prop) (w : World) : Stp ok w ok w := ⟨Nat.le_refl _, fun _ _ h => ⟨rfl, h⟩⟩
theorem Stp.trans {ok ok1 ok2 : Nat → Prop} {w w1 w2 : World} (h : Stp ok w ok1 w1) (k : Stp ok1 w1 ok2 w2) : Stp ok w ok2 w2 :=
  ⟨Nat.le_trans h.size k.size, fun b hb ho => by
    obtain ⟨e, ho1⟩ := h.keep b hb ho
    obtain ⟨e2, ho2⟩ := k.keep b (Nat.lt_of_lt_of_le hb h.size) ho1
    exact ⟨e2.trans e, ho2⟩⟩

/-- the world has grown alone -/
abbrev Ext (w w' : World) : Prop := Below w.heap.size w w'
theorem Ext.stp {w w' : World} (h : Ext w w') (ok : Nat → Prop) : Stp ok w ok w' := ⟨h.size, fun b hb ho => ⟨h.block b hb, ho⟩⟩
theorem Ext.trans' {a b c : World} (h : Ext a b) (k : Ext b c) : Ext a c := h.trans (k.mono h.size)

theorem Rg.stp {w w' : World} {ok ok' : Nat → Prop} {b o : Nat} {cs : List Value} (h : Rg w b o cs) (ho : ok b) (e : Stp ok w ok' w') : Rg w' b o cs := by
  have hl := h.lt
  obtain ⟨C, T, fr, hb, he⟩ := h
  exact ⟨C, T, fr, (e.keep b hl ho).1.trans hb, he⟩
theorem Rg.ext {w w' : World} {b o : Nat} {cs : List Value} (h : Rg w b o cs) (e : Ext w w') : Rg w' b o cs := h.stp (ok := fun _ => True) trivial (e.stp _)

/-! ### Data: slices that nobody writes -/
/-- the slice v holds the elements vs (of k cells each), in ok blocks -/
def Sl (ok : Nat → Prop) (w : World) (E : TypeId) (k : Nat) (v : Value) (vs : List Value) : Prop :=
  (∀ x ∈ vs, x.cells.size = k) ∧ Good vs ∧ ∃ A c, v = .slice A vs.length c ∧ vs.length ≤ c ∧ c ≤ maxLen ∧
    (0 < vs.length → ∃ b o, A = some ⟨b, o, none⟩ ∧ ok b ∧ E = E ∧ Rg w b o (fl vs))

theorem Sl.stp {w w' : World} {ok ok' : Nat → Prop} {E : TypeId} {k : Nat} {v : Value} {vs : List Value} (h : Sl ok w E k v vs) (e : Stp ok w ok' w') : Sl ok' w' E k v vs := by
  obtain ⟨h1, h2, A, c, hv, hc, hm, hr⟩ := h
  refine ⟨h1, h2, A, c, hv, hc, hm, fun hn => ?_⟩
  obtain ⟨b, o, hA, ho, _, hg⟩ := hr hn
  have hk := e.keep b hg.lt ho
  exact ⟨b, o, hA, hk.2, rfl, hg.stp ho e⟩
theorem Sl.sub {w : World} {ok ok' : Nat → Prop} {E : TypeId} {k : Nat} {v : Value} {vs : List Value} (h : Sl ok w E k v vs) (hs : ∀ b, ok b → ok' b) : Sl ok' w E k v vs :=
  h.stp ⟨Nat.le_refl _, fun b _ ho => ⟨rfl, hs b ho⟩⟩
theorem Sl.nil (ok : Nat → Prop) (w : World) (E : TypeId) (k c : Nat) (A : Option Addr) (hc : c ≤ maxLen) : Sl ok w E k (.slice A 0 c) [] :=
  ⟨by simp, by simp [Good, One], A, c, rfl, Nat.zero_le _, hc, by simp⟩

theorem fl_length {vs : List Value} {k : Nat} (h : ∀ x ∈ vs, x.cells.size = k) : (fl vs).length = vs.length * k := by
  induction vs with
  | nil => simp
  | cons v vs ih =>
    simp only [fl_cons, List.length_append, List.length_cons, Array.length_toList]
    rw [ih (fun x hx => h x (by simp [hx])), h v (by simp), Nat.add_mul]
    omega
theorem fl_split {vs : List Value} {i : Nat} (hi : i < vs.length) : fl vs = fl (vs.take i) ++ vs[i].cells.toList ++ fl (vs.drop (i + 1)) := by
  conv => lhs; rw [← List.take_append_drop i vs]
  rw [List.drop_eq_getElem_cons hi, fl_append, fl_cons, List.append_assoc]
theorem fl_drop {vs : List Value} {k : Nat} (h : ∀ x ∈ vs, x.cells.size = k) (i : Nat) : (fl vs).drop (i * k) = fl (vs.drop i) := by
  rcases Nat.lt_or_ge i vs.length with hi | hi
  · have hl := fl_length (vs := vs.take i) (fun x hx => h x (List.mem_of_mem_take hx))
    have : (vs.take i).length = i := by simp; omega
    rw [this] at hl
    conv => lhs; rw [← List.take_append_drop i vs]
    rw [fl_append, ← hl, List.drop_left]
  · have hl := fl_length h
    rw [List.drop_eq_nil_of_le (by rw [hl]; exact Nat.mul_le_mul_right k hi), List.drop_eq_nil_of_le hi]
    rfl
theorem fl_take {vs : List Value} {k : Nat} (h : ∀ x ∈ vs, x.cells.size = k) (i : Nat) : (fl vs).take (i * k) = fl (vs.take i) := by
  rcases Nat.lt_or_ge i vs.length with hi | hi
  · have hl := fl_length (vs := vs.take i) (fun x hx => h x (List.mem_of_mem_take hx))
    have : (vs.take i).length = i := by simp; omega
    rw [this] at hl
    conv => lhs; rw [← List.take_append_drop i vs]
    rw [fl_append, ← hl, List.take_left]
  · have hl := fl_length h
    rw [List.take_of_length_le (by rw [hl]; exact Nat.mul_le_mul_right k hi), List.take_of_length_le hi]

theorem Good.of_sub {a b : List Value} (h : Good a) (hs : ∀ x ∈ b, x ∈ a) : Good b := by
  intro v hv
  obtain ⟨x, hx, hvx⟩ := List.mem_flatMap.1 hv
  exact h v (List.mem_flatMap.2 ⟨x, hs x hx, hvx⟩)
theorem Good.append {a b : List Value} (h : Good a) (k : Good b) : Good (a ++ b) := by
  intro v hv
  rw [fl_append, List.mem_append] at hv
  rcases hv with hv | hv
  · exact h v hv
  · exact k v hv
theorem Good.nil : Good [] := by simp [Good, One]
theorem Good.cons {v : Value} {vs : List Value} (h : One v.cells.toList) (k : Good vs) : Good (v :: vs) := by
  intro x hx
  rw [fl_cons, List.mem_append] at hx
  rcases hx with hx | hx
  · exact h x hx
  · exact k x hx
theorem Good.set {vs : List Value} {x : Value} (h : Good vs) (hx : One x.cells.toList) (i : Nat) : Good (vs.set i x) := by
  intro v hv
  obtain ⟨y, hy, hvy⟩ := List.mem_flatMap.1 hv
  rcases List.mem_or_eq_of_mem_set hy with hy | rfl
  · exact h v (List.mem_flatMap.2 ⟨y, hy, hvy⟩)
  · exact hx v hvy
theorem Good.one {vs : List Value} (h : Good vs) {x : Value} (hx : x ∈ vs) : One x.cells.toList := fun v hv => h v (List.mem_flatMap.2 ⟨x, hx, hv⟩)

/-- an element of a slice lies at its place -/
theorem Sl.elem {ok : Nat → Prop} {w : World} {E : TypeId} {k : Nat} {A : Option Addr} {n c : Nat} {vs : List Value} (h : Sl ok w E k (.slice A n c) vs) {i : Nat} (hi : i < vs.length) :
    ∃ b o, A = some ⟨b, o, none⟩ ∧ ok b ∧ Rg w b (o + i * k) vs[i].cells.toList := by
  obtain ⟨h1, _, A', c', hv, hc, hm, hr⟩ := h
  obtain ⟨b, o, hA, ho, _, hg⟩ := hr (by omega)
  injection hv with hv1 hv2 hv3
  subst hv1
  refine ⟨b, o, hA, ho, ?_⟩
  rw [fl_split hi] at hg
  have := hg.mid
  rw [fl_length (k := k) (fun x hx => h1 x (List.mem_of_mem_take hx))] at this
  rwa [show (vs.take i).length = i by simp; omega] at this


/-! ### The state behind each kind of effect -/
section
variable {s : Base} {ok : Nat → Prop} {m : List Piece} {w : World}

theorem heap_alloc_lt {w : World} {o : Obj} {k : Nat} (h : k < w.heap.size) : (w.alloc o).heap[k]? = w.heap[k]? := Below.heap_alloc w o k h
theorem Piece.at_of_block {w w' : World} {p : Piece} (h : p.at_ w) (hb : ∀ g, p.blk = some g → w'.heap[g]? = w.heap[g]?) : p.at_ w' := by
  cases p with
  | var g T vs => exact ⟨(hb g rfl).trans h.1, h.2⟩
  | raw g T C => exact (hb g rfl).trans h
  | row v E k vs =>
    obtain ⟨⟨h1, h2⟩, h3⟩ := h
    refine ⟨⟨h1, ?_⟩, h3⟩
    rcases h2 with h2 | ⟨g, cap, cur, hv, hg, hh, r⟩
    · exact .inl h2
    · exact .inr ⟨g, cap, cur, hv, hg, (hb g (by subst hv; rfl)).trans hh, r⟩
theorem Piece.blk_lt {w : World} {p : Piece} (h : p.at_ w) {g : Nat} (hg : p.blk = some g) : g < w.heap.size := by
  cases p with
  | var g' T vs =>
    injection hg with hg
    subst hg
    exact (Array.getElem?_eq_some_iff.1 h.1).1
  | raw g' T C =>
    injection hg with hg
    subst hg
    exact (Array.getElem?_eq_some_iff.1 h).1
  | row v E k vs => exact (h.1.lt g hg).2

/-- growth alone -/
theorem St.ext {w' : World} (h : St s ok m w) (e : Ext w w') : St s ok m w' where
  os := e.os.trans h.os
  tape := e.tape.trans h.tape
  output := e.output.trans h.output
  size := Nat.le_trans h.size e.size
  old b hb hm := (e.block b (Nat.lt_of_lt_of_le hb h.size)).trans (h.old b hb hm)
  sub := h.sub
  fresh b hb := h.fresh b (Nat.le_trans e.size hb)
  at_ p hp := Piece.at_of_block (h.at_ p hp) fun g hg => e.block g (h.own p hp g hg).1
  own p hp g hg := let ⟨a, b, c⟩ := h.own p hp g hg; ⟨Nat.lt_of_lt_of_le a e.size, b, c⟩
  dis := h.dis

theorem Ext.drew (w : World) : Ext w w.drew := (Below.refl _ _).drew
theorem Ext.alloc (w : World) (o : Obj) : Ext w (w.alloc o) := (Below.refl _ _).alloc (Nat.le_refl _) o
theorem Ext.refl (w : World) : Ext w w := Below.refl _ _

/-- the world has grown, some new blocks are no data -/
structure Ex (ok : Nat → Prop) (w : World) (ok' : Nat → Prop) (w' : World) : Prop where
  ext : Ext w w'
  sub : ∀ b, ok' b → ok b
  keep : ∀ b, b < w.heap.size → ok b → ok' b
theorem Ex.refl (ok : Nat → Prop) (w : World) : Ex ok w ok w := ⟨Below.refl _ _, fun _ h => h, fun _ _ h => h⟩
theorem Ex.trans {ok ok1 ok2 : Nat → Prop} {w w1 w2 : World} (h : Ex ok w ok1 w1) (k : Ex ok1 w1 ok2 w2) : Ex ok w ok2 w2 :=
  ⟨Ext.trans' h.ext k.ext, fun b hb => h.sub b (k.sub b hb), fun b hb ho => k.keep b (Nat.lt_of_lt_of_le hb h.ext.size) (h.keep b hb ho)⟩
theorem Ex.stp {ok ok' : Nat → Prop} {w w' : World} (h : Ex ok w ok' w') : Stp ok w ok' w' := ⟨h.ext.size, fun b hb ho => ⟨h.ext.block b hb, h.keep b hb ho⟩⟩
theorem Ex.of_ext {w w' : World} (h : Ext w w') (ok : Nat → Prop) : Ex ok w ok w' := ⟨h, fun _ h => h, fun _ _ h => h⟩
theorem St.ex {ok' : Nat → Prop} {w' : World} (h : St s ok m w) (e : Ex ok w ok' w') (hf : ∀ b, w'.heap.size ≤ b → ok' b) : St s ok' m w' :=
  let h' := h.ext e.ext
  ⟨h'.os, h'.tape, h'.output, h'.size, h'.old, fun b hb => h.sub b (e.sub b hb), hf, h'.at_, fun p hp g hg => let ⟨a, b, c⟩ := h'.own p hp g hg; ⟨a, fun hh => b (e.sub g hh), c⟩, h'.dis⟩
/-- a new variable -/
theorem St.newVar (h : St s ok m w) (T : TypeId) (vs : List Value) (hg : Good vs) :
    St s (fun b => ok b ∧ b ≠ w.heap.size) (.var w.heap.size T vs :: m) (w.alloc (.cells (fl vs).toArray T)) ∧
      Ex ok w (fun b => ok b ∧ b ≠ w.heap.size) (w.alloc (.cells (fl vs).toArray T)) := by
  have he := h.ext (Ext.alloc w (.cells (fl vs).toArray T))
  refine ⟨⟨he.os, he.tape, he.output, he.size, he.old, fun b hb => h.sub b hb.1, ?_, ?_, ?_, ?_⟩, ⟨Ext.alloc _ _, fun _ hb => hb.1, ?_⟩⟩
  · intro b hb
    have : w.heap.size + 1 ≤ b := by simpa using hb
    exact ⟨h.fresh b (by omega), by omega⟩
  · intro p hp
    rcases List.mem_cons.1 hp with rfl | hp
    · exact ⟨heap_alloc_new w _, hg⟩
    · exact he.at_ p hp
  · intro p hp g hg
    rcases List.mem_cons.1 hp with rfl | hp
    · injection hg with hg
      subst hg
      exact ⟨by simp, fun hh => hh.2 rfl, .inl h.size⟩
    · obtain ⟨a, b, c⟩ := he.own p hp g hg
      exact ⟨a, fun hh => b hh.1, c⟩
  · refine List.pairwise_cons.2 ⟨fun q hq g hg hq' => ?_, h.dis⟩
    injection hg with hg
    subst hg
    exact absurd (h.own q hq _ hq').1 (Nat.lt_irrefl _)
  · intro b hb ho
    exact ⟨ho, by omega⟩

/-- a piece is written: its block alone turns -/
theorem St.write {w' : World} {p p' : Piece} {pre post : List Piece} (h : St s ok (pre ++ p :: post) w) (hp' : p'.at_ w') {g : Nat} (hb : p.blk = some g) (hb' : p'.blk = some g)
    (hsz : w'.heap.size = w.heap.size) (hos : w'.os = w.os) (htp : w'.tape = w.tape) (hou : w'.output = w.output) (hk : ∀ b, b ≠ g → w'.heap[b]? = w.heap[b]?) :
    St s ok (pre ++ p' :: post) w' ∧ Stp ok w ok w' := by
  have hpm : p ∈ pre ++ p :: post := by simp
  obtain ⟨hlt, hno, hold⟩ := h.own p hpm g hb
  have hdis := h.dis
  rw [List.pairwise_append, List.pairwise_cons] at hdis
  obtain ⟨d1, ⟨d2, d3⟩, d4⟩ := hdis
  have hne : ∀ q, q ∈ pre ∨ q ∈ post → ∀ g', q.blk = some g' → g' ≠ g := by
    rintro q (hq | hq) g' hg' rfl
    · exact d4 q hq p (by simp) g' hg' hb
    · exact d2 q hq g' hb hg'
  refine ⟨⟨hos.trans h.os, htp.trans h.tape, hou.trans h.output, by rw [hsz]; exact h.size, ?_, h.sub, by rw [hsz]; exact h.fresh, ?_, ?_, ?_⟩, ⟨by rw [hsz]; exact Nat.le_refl _, fun b _ ho => ⟨hk b (by rintro rfl; exact hno ho), ho⟩⟩⟩
  · intro b hb1 hb2
    rw [hk b (by
      rintro rfl
      rcases hold with hold | hold
      · omega
      · exact hb2 hold)]
    exact h.old b hb1 hb2
  · intro q hq
    rw [List.mem_append, List.mem_cons] at hq
    rcases hq with hq | rfl | hq
    · exact Piece.at_of_block (h.at_ q (by simp [hq])) fun g' hg' => hk g' (hne q (.inl hq) g' hg')
    · exact hp'
    · exact Piece.at_of_block (h.at_ q (by simp [hq])) fun g' hg' => hk g' (hne q (.inr hq) g' hg')
  · intro q hq g' hg'
    rw [hsz]
    rw [List.mem_append, List.mem_cons] at hq
    rcases hq with hq | rfl | hq
    · exact h.own q (by simp [hq]) g' hg'
    · rw [hb'] at hg'
      injection hg' with hg'
      subst hg'
      exact ⟨hlt, hno, hold⟩
    · exact h.own q (by simp [hq]) g' hg'
  · rw [List.pairwise_append, List.pairwise_cons]
    refine ⟨d1, ⟨fun q hq g' hg' => ?_, d3⟩, fun q hq r hr g' hg' => ?_⟩
    · rw [hb'] at hg'
      injection hg' with hg'
      subst hg'
      exact d2 q hq g hb
    · rcases List.mem_cons.1 hr with rfl | hr
      · rw [hb']
        intro e
        injection e with e
        exact hne q (.inl hq) g' hg' e.symm
      · exact d4 q hq r (by simp [hr]) g' hg'

/-- pieces may be forgotten, and come in another order -/
theorem St.less {m' : List Piece} (h : St s ok m w) (hs : m'.Sublist m) : St s ok m' w :=
  ⟨h.os, h.tape, h.output, h.size, h.old, h.sub, h.fresh, fun p hp => h.at_ p (hs.subset hp), fun p hp => h.own p (hs.subset hp), h.dis.sublist hs⟩

/-- an own row becomes data -/
theorem St.freeze {v : Value} {E : TypeId} {k : Nat} {vs : List Value} {pre post : List Piece} (h : St s ok (pre ++ .row v E k vs :: post) w) (hs : ∀ b, s.w.heap.size ≤ b → s.ok b) 
    (hv : ∀ g, v.ownBlock = some g → ¬ s.md g) :
    ∃ ok', St s ok' (pre ++ post) w ∧ Stp ok w ok' w ∧ Sl ok' w E k v vs := by
  have hpm : Piece.row v E k vs ∈ pre ++ .row v E k vs :: post := by simp
  obtain ⟨hat, hgood, hk⟩ := h.at_ _ hpm
  have hl := h.less (m' := pre ++ post) (by simp)
  have hdis := h.dis
  rw [List.pairwise_append, List.pairwise_cons] at hdis
  obtain ⟨d1, ⟨d2, d3⟩, d4⟩ := hdis
  refine ⟨fun b => ok b ∨ v.ownBlock = some b, ⟨hl.os, hl.tape, hl.output, hl.size, hl.old, ?_, fun b hb => .inl (hl.fresh b hb), hl.at_, ?_, hl.dis⟩, ⟨Nat.le_refl _, fun b _ ho => ⟨rfl, .inl ho⟩⟩, hk, hgood, ?_⟩
  · rintro b (hb | hb)
    · exact h.sub b hb
    · rcases (h.own _ hpm b hb).2.2 with h1 | h1
      · exact hs b h1
      · exact absurd h1 (hv b hb)
  · intro p hp g hg
    obtain ⟨a, b, c⟩ := hl.own p hp g hg
    refine ⟨a, ?_, c⟩
    rintro (hh | hh)
    · exact b hh
    · rcases List.mem_append.1 hp with hp | hp
      · exact d4 p hp (.row v E k vs) (by simp) g hg hh
      · exact d2 p hp g hh hg
  · rcases hat.2 with ⟨rfl, hn⟩ | ⟨g, cap, cur, rfl, _, hh, hnc, hcm, hcs, htk⟩
    · have : vs = [] := List.eq_nil_of_length_eq_zero hn
      subst this
      exact ⟨none, 0, rfl, Nat.le_refl _, by simp [maxLen], by simp⟩
    · refine ⟨some ⟨g, 0, none⟩, cap, rfl, hnc, hcm, fun _ => ⟨g, 0, rfl, .inr rfl, rfl, cur, E, _, hh, ?_⟩⟩
      rw [List.drop_zero, fl_length hk]
      exact htk

end
end Tw
/-! ### Frames and judgements -/
namespace Tw
open Go Go.RowKit

abbrev Env := List (Nat × Value)
def lk : Env → Nat → Option Value
  | [], _ => none
  | (t, v) :: e, s => bif Nat.beq t s then some v else lk e s

structure Sat (N : Nat) (e : Env) (a : Act) : Prop where
  size : a.tmps.size = N
  defers : a.defers = []
  env : ∀ t v, lk e t = some v → a.tmps.getD t undef = v

theorem beq_ff {a b : Nat} (h : a ≠ b) : Nat.beq a b = false := by
  cases hb : Nat.beq a b with
  | false => rfl
  | true => exact absurd (Nat.eq_of_beq_eq_true hb) h
/-- the value of an operand -/
def ev (e : Env) : Operand → Option Value
  | .tmp t => lk e t
  | .const v => some v
  | .global g => some (.pointer (some ⟨g, 0, none⟩))
  | .func f => some (.func (.func f) #[] #[])
/-- .. of several -/
def evs (e : Env) : List Operand → Option (List Value)
  | [] => some []
  | x :: xs => match ev e x, evs e xs with
    | some v, some vs => some (v :: vs)
    | _, _ => none

section
variable {P : Program} {N : Nat} {e : Env} {a : Act} {w : World} {Q : Exit → Act → World → Prop}

theorem Sat.eval {x : Operand} {v : Value} (h : Sat N e a) (hx : ev e x = some v) : a.eval x = v := by
  cases x with
  | tmp t => exact h.env t v hx
  | const u => simpa [ev, Act.eval] using hx
  | global g => simpa [ev, Act.eval] using hx
  | func f => simpa [ev, Act.eval] using hx
theorem Sat.evals (h : Sat N e a) : ∀ {xs : List Operand} {vs : List Value}, evs e xs = some vs → xs.map a.eval = vs
  | [], vs, hx => by simpa [evs] using hx
  | x :: xs, vs, hx => by
    unfold evs at hx
    cases h1 : ev e x with
    | none => simp [h1] at hx
    | some v =>
      cases h2 : evs e xs with
      | none => simp [h1, h2] at hx
      | some us =>
        simp [h1, h2] at hx
        subst hx
        simp [h.eval h1, h.evals h2]
theorem Sat.put {d : Nat} {v : Value} (h : Sat N e a) (hd : Nat.blt d N = true) : Sat N ((d, v) :: e) (a.put (some d) v) := by
  have hd' : d < N := by
    have : d + 1 ≤ N := by simpa [Nat.blt, Nat.ble_eq] using hd
    exact this
  refine ⟨by simp [Act.put, h.size], by simp [Act.put, h.defers], fun t u ht => ?_⟩
  unfold lk at ht
  by_cases htd : d = t
  · subst htd
    simp at ht
    subst ht
    simp [Act.put, h.size, hd']
  · have : Nat.beq d t = false := beq_ff htd
    simp [this] at ht
    simp [Act.put, Array.getElem?_setIfInBounds_ne htd]
    simpa using h.env t u ht

/-- what the smaller frame says the larger one says -/
def subE : Env → Env → Prop
  | [], _ => True
  | p :: r, e => lk e p.1 = some p.2 ∧ subE r e
theorem Sat.weak {e' : Env} (h : Sat N e a) (hs : subE e' e) : Sat N e' a := by
  refine ⟨h.size, h.defers, ?_⟩
  induction e' with
  | nil => intro t v ht; simp [lk] at ht
  | cons p r ih =>
    intro t v ht
    unfold lk at ht
    by_cases hp : p.1 = t
    · subst hp
      simp at ht
      subst ht
      exact h.env _ _ hs.1
    · have : Nat.beq p.1 t = false := beq_ff hp
      simp [this] at ht
      exact ih hs.2 t v ht

def WL (P : Program) (N : Nat) (ops : Array Oper) (Q : Exit → Act → World → Prop) (l : List Oper) (e : Env) (w : World) : Prop := ∀ a, Sat N e a → wpList P ops Q l a w
def WC (P : Program) (N : Nat) (c : Code) (Q : Exit → Act → World → Prop) (e : Env) (w : World) : Prop := ∀ a, Sat N e a → c.wp P Q a w
/-- the post at an exit -/
def WE (N : Nat) (x : Exit) (Q : Exit → Act → World → Prop) (e : Env) (w : World) : Prop := ∀ a, Sat N e a → Q x a w

/-! ### Control -/
theorem wc_weak {c : Code} {e' : Env} (hs : subE e' e) (h : WC P N c Q e' w) : WC P N c Q e w := fun a ha => h a (ha.weak hs)
theorem wc_seq {x y : Code} (h : WC P N x (Exit.then (fun a w => y.wp P Q a w) Q) e w) : WC P N (.seq x y) Q e w := fun a ha => wp_seq (h a ha)
theorem wc_block {id : Nat} {c : Code} (h : WC P N c (Exit.inBlock id Q) e w) : WC P N (.block id c) Q e w := fun a ha => wp_block (h a ha)
theorem wc_skip (h : WE N .normal Q e w) : WC P N .skip Q e w := fun a ha => wp_skip (h a ha)
theorem wc_exit {id : Nat} (h : WE N (.exit id) Q e w) : WC P N (.exit id) Q e w := fun a ha => wp_exit (h a ha)
theorem wc_ret (h : WE N .ret Q e w) : WC P N .ret Q e w := fun a ha => wp_ret (h a ha)
theorem wc_cond {c : Operand} {x y : Code} {p : Prop} [Decidable p] (hc : ev e c = some (.bool (decide p))) (ht : p → WC P N x Q e w) (hf : ¬ p → WC P N y Q e w) : WC P N (.cond c x y) Q e w := fun a ha =>
  wp_cond_split (ha.eval hc) (fun h => ht (of_decide_eq_true h) a ha) (fun h => hf (of_decide_eq_false h) a ha)
theorem wc_condB {c : Operand} {x y : Code} {b : Bool} (hc : ev e c = some (.bool b)) (ht : b = true → WC P N x Q e w) (hf : b = false → WC P N y Q e w) : WC P N (.cond c x y) Q e w := fun a ha =>
  wp_cond_split (ha.eval hc) (fun h => ht h a ha) (fun h => hf h a ha)
theorem wc_condT {c : Operand} {x y : Code} (hc : ev e c = some (.bool true)) (h : WC P N x Q e w) : WC P N (.cond c x y) Q e w := fun a ha => wp_cond_true (ha.eval hc) (h a ha)
theorem wc_condF {c : Operand} {x y : Code} (hc : ev e c = some (.bool false)) (h : WC P N y Q e w) : WC P N (.cond c x y) Q e w := fun a ha => wp_cond_false (ha.eval hc) (h a ha)

theorem we_then {K : Act → World → Prop} (h : ∀ a, Sat N e a → K a w) : WE N .normal (Exit.then K Q) e w := h
theorem we_thenC {c : Code} {Q' : Exit → Act → World → Prop} (h : WC P N c Q' e w) : WE N .normal (Exit.then (fun a w => c.wp P Q' a w) Q) e w := h
theorem we_thenX {K : Act → World → Prop} {id : Nat} (h : WE N (.exit id) Q e w) : WE N (.exit id) (Exit.then K Q) e w := h
theorem we_thenR {K : Act → World → Prop} (h : WE N .ret Q e w) : WE N .ret (Exit.then K Q) e w := h
theorem we_block {id : Nat} (h : WE N .normal Q e w) : WE N .normal (Exit.inBlock id Q) e w := h
theorem we_blockR {id : Nat} (h : WE N .ret Q e w) : WE N .ret (Exit.inBlock id Q) e w := h
theorem we_blockX {id : Nat} (h : WE N .normal Q e w) : WE N (.exit id) (Exit.inBlock id Q) e w := fun a ha => by
  show Exit.inBlock id Q (.exit id) a w
  simp only [Exit.inBlock, if_true]
  exact h a ha
theorem we_blockO {id j : Nat} (hj : Nat.beq j id = false) (h : WE N (.exit j) Q e w) : WE N (.exit j) (Exit.inBlock id Q) e w := fun a ha => by
  show Exit.inBlock id Q (.exit j) a w
  have : j ≠ id := Nat.ne_of_beq_eq_false hj
  simp only [Exit.inBlock, this, if_false]
  exact h a ha

theorem wc_region {id : Nat} {l : List Oper} (h : WL P N l.toArray Q l e w) : WC P N (.region id l.toArray false) Q e w := fun a ha => wp_region_lit (h a ha)
theorem wl_nil {ops : Array Oper} (h : WE N .normal Q e w) : WL P N ops Q [] e w := h

/-- a cut: whatever the first part leaves, the rest goes on from it -/
theorem wc_cut {x y : Code} (Mid : Act → World → Prop) (h1 : WC P N x (Exit.then Mid Q) e w) (h2 : ∀ a w', Mid a w' → y.wp P Q a w') : WC P N (.seq x y) Q e w := fun a ha =>
  wp_seq (wp_mono (h1 a ha) fun x a' w' hx => by cases x <;> first | exact h2 _ _ hx | exact hx)

/-- the least measure of a state that fits -/
noncomputable def least {α : Type} (I : α → Act → World → Prop) (μ : α → Nat) (a : Act) (w : World) : Nat :=
  Classical.epsilon fun k => (∃ x, μ x = k ∧ I x a w) ∧ ∀ y, I y a w → k ≤ μ y
theorem least_spec {α : Type} (I : α → Act → World → Prop) (μ : α → Nat) (a : Act) (w : World) (x : α) (h : I x a w) :
    (∃ x, μ x = least I μ a w ∧ I x a w) ∧ ∀ y, I y a w → least I μ a w ≤ μ y := by
  have hex : ∃ k, (∃ x, μ x = k ∧ I x a w) ∧ ∀ y, I y a w → k ≤ μ y := by
    have : ∀ n x, μ x ≤ n → I x a w → ∃ k, (∃ x, μ x = k ∧ I x a w) ∧ ∀ y, I y a w → k ≤ μ y := by
      intro n
      induction n with
      | zero => exact fun x h1 h2 => ⟨0, ⟨x, by omega, h2⟩, fun _ _ => Nat.zero_le _⟩
      | succ n ih =>
        intro x h1 h2
        by_cases hb : ∃ y, μ y < μ x ∧ I y a w
        · obtain ⟨y, hy1, hy2⟩ := hb
          exact ih y (by omega) hy2
        · exact ⟨μ x, ⟨x, rfl, h2⟩, fun y h4 => Nat.le_of_not_lt fun h => hb ⟨y, h, h4⟩⟩
    exact this _ x (Nat.le_refl _) h
  exact Classical.epsilon_spec hex
theorem wp_loop_ghost {c : Code} {α : Type} (I : α → Act → World → Prop) (μ : α → Nat) (x : α) (h0 : I x a w)
    (round : ∀ x a w, I x a w → c.wp P (Exit.then (fun a' w' => ∃ y, μ y < μ x ∧ I y a' w') Q) a w) : (Code.loop c).wp P Q a w := by
  refine wp_loop (fun a w => ∃ x, I x a w) (least I μ) ⟨x, h0⟩ ?_
  rintro a w ⟨x1, h1⟩
  obtain ⟨⟨x2, hx2, h2⟩, _⟩ := least_spec I μ a w x1 h1
  refine wp_mono (round x2 a w h2) fun ex a' w' hx => ?_
  cases ex <;> try exact hx
  obtain ⟨y, hy1, hy2⟩ := hx
  have := (least_spec I μ a' w' y hy2).2 y hy2
  exact ⟨⟨y, hy2⟩, by omega⟩
/-- a loop: the frame I x and the facts F x at each head; the measure sinks -/
theorem wc_loop {c : Code} {α : Type} (I : α → Env) (F : α → World → Prop) (μ : α → Nat) (x : α) (h0 : subE (I x) e) (hF : F x w)
    (round : ∀ x w, F x w → WC P N c (Exit.then (fun a' w' => ∃ y, μ y < μ x ∧ Sat N (I y) a' ∧ F y w') Q) (I x) w) : WC P N (.loop c) Q e w := fun _ ha =>
  wp_loop_ghost (fun x a w => Sat N (I x) a ∧ F x w) μ x ⟨ha.weak h0, hF⟩ fun x _ w ⟨h1, h2⟩ => round x w h2 _ h1
/-- a round's end -/
theorem we_round {α : Type} {I : α → Env} {F : α → World → Prop} {μ : α → Nat} {n : Nat} (y : α) (hs : subE (I y) e) (hF : F y w) (hm : μ y < n) :
    WE N .normal (Exit.then (fun a' w' => ∃ y, μ y < n ∧ Sat N (I y) a' ∧ F y w') Q) e w := fun _ ha => ⟨y, hm, ha.weak hs, hF⟩
end
end Tw
/-! ### Operations that only compute -/
namespace Tw
open Go Go.RowKit
section
variable {P : Program} {N : Nat} {ops : Array Oper} {Q : Exit → Act → World → Prop} {rest : List Oper} {e : Env} {w w' : World} {d : Nat} {ty : TypeId} {pos : String} {af : Array Edge}

theorem wl_val {op : Op} {v : Value} (hrun : ∀ a, Sat N e a → (execOp a.eval ⟨some d, op, ty, pos, af, none⟩).run P w = .ok (.value v) w') (hd : Nat.blt d N = true)
    (h : WL P N ops Q rest ((d, v) :: e) w') : WL P N ops Q (⟨some d, op, ty, pos, af, none⟩ :: rest) e w := fun a ha =>
  wpList_plain rfl fun K hK => by
    unfold Oper.wp
    rw [hrun a ha]
    exact hK _ _ (h _ (ha.put hd))
theorem wl_skip {op : Op} (hrun : ∀ a, Sat N e a → (execOp a.eval ⟨none, op, ty, pos, af, none⟩).run P w = .ok .skip w') (h : WL P N ops Q rest e w') : WL P N ops Q (⟨none, op, ty, pos, af, none⟩ :: rest) e w := fun a ha =>
  wpList_plain rfl fun K hK => by
    unfold Oper.wp
    rw [hrun a ha]
    exact hK _ _ (h _ ha)

theorem wl_move {x : Operand} {v : Value} (hx : ev e x = some v) (hd : Nat.blt d N = true) (h : WL P N ops Q rest ((d, v) :: e) w) : WL P N ops Q (⟨some d, .move x, ty, pos, af, none⟩ :: rest) e w :=
  wl_val (fun a ha => by simp [execOp, ha.eval hx]) hd h
theorem wl_assign {x : Operand} {v : Value} (hx : ev e x = some v) (hd : Nat.blt d N = true) (h : WL P N ops Q rest ((d, v) :: e) w) : WL P N ops Q (⟨some d, .assign x, ty, pos, af, none⟩ :: rest) e w :=
  wl_val (fun a ha => by simp [execOp, ha.eval hx]) hd h
theorem wl_pickT {c x y : Operand} {v : Value} (hc : ev e c = some (.bool true)) (hx : ev e x = some v) (hd : Nat.blt d N = true) (h : WL P N ops Q rest ((d, v) :: e) w) : WL P N ops Q (⟨some d, .pick c x y, ty, pos, af, none⟩ :: rest) e w :=
  wl_val (fun a ha => by simp [execOp, ha.eval hc, ha.eval hx, asBool]) hd h
theorem wl_pickF {c x y : Operand} {v : Value} (hc : ev e c = some (.bool false)) (hy : ev e y = some v) (hd : Nat.blt d N = true) (h : WL P N ops Q rest ((d, v) :: e) w) : WL P N ops Q (⟨some d, .pick c x y, ty, pos, af, none⟩ :: rest) e w :=
  wl_val (fun a ha => by simp [execOp, ha.eval hc, ha.eval hy, asBool]) hd h

/-! guards -/
theorem wl_on {op : Op} {dst : Option Tmp} {g : Nat} {b : Bool} {t : Nat} (ht : (ops[g]?).bind (·.dst) = some t) (hb : lk e t = some (.bool b)) (h : ∀ a, Sat N e a → wpList P ops Q (⟨dst, op, ty, pos, af, none⟩ :: rest) a w) :
    WL P N ops Q (⟨dst, op, ty, pos, af, some (g, b)⟩ :: rest) e w := fun a ha => by
  have hv : a.tmps[t]?.getD undef = .bool b := by simpa using ha.env t _ hb
  have hy : yielded ops a.tmps g = some b := by
    have hlt : t < a.tmps.size := by
      rcases Nat.lt_or_ge t a.tmps.size with h1 | h1
      · exact h1
      · rw [Array.getElem?_eq_none h1] at hv; simp [undef] at hv
    have hv2 : a.tmps[t]? = some (.bool b) := by
      rw [Array.getElem?_eq_getElem hlt] at hv ⊢
      simpa using hv
    simp [yielded, ht, hv2]
  have hw : Region.wanted ⟨dst, op, ty, pos, af, some (g, b)⟩ (yielded ops a.tmps) = true := by simp [Region.wanted, hy]
  have := h a ha
  unfold wpList at this ⊢
  simp only [Region.wanted, if_true, hy, beq_self_eq_true] at this ⊢
  exact this
theorem wl_off {op : Op} {g : Nat} {b : Bool} {t : Nat} (ht : (ops[g]?).bind (·.dst) = some t) (hb : lk e t = some (.bool (!b))) (hd : Nat.blt d N = true) (h : WL P N ops Q rest ((d, undef) :: e) w) :
    WL P N ops Q (⟨some d, op, ty, pos, af, some (g, b)⟩ :: rest) e w := fun a ha => by
  have hv : a.tmps[t]?.getD undef = .bool (!b) := by simpa using ha.env t _ hb
  have hy : yielded ops a.tmps g = some (!b) := by
    have hlt : t < a.tmps.size := by
      rcases Nat.lt_or_ge t a.tmps.size with h1 | h1
      · exact h1
      · rw [Array.getElem?_eq_none h1] at hv; simp [undef] at hv
    have hv2 : a.tmps[t]? = some (.bool (!b)) := by
      rw [Array.getElem?_eq_getElem hlt] at hv ⊢
      simpa using hv
    simp [yielded, ht, hv2]
  unfold wpList
  rw [if_neg (by simp [Region.wanted, hy])]
  exact h _ (ha.put hd)

/-! numbers -/
theorem run_bin {op : BinOp} {T yT : TypeId} {k : IntKind} {x y : Operand} {a b : Int} {v : Value} (hx : ev e x = some (.int k a)) (hy : ev e y = some (.int k b))
    (h : (binOp op T (.int k a) (.int k b)).run P w = .ok v w) : ∀ A, Sat N e A → (execOp A.eval ⟨some d, .binOp op T x y yT, ty, pos, af, none⟩).run P w = .ok (.value v) w := fun A hA => by
  have hg : (eqGuard op T x y (.int k a) (.int k b)).run P w = .ok () w := by
    unfold eqGuard
    split <;> rfl
  simp [execOp, hA.eval hx, hA.eval hy, hg, h]

/-- what an int operation of the kind's own wrap gives -/
def arith : BinOp → Int → Int → Option Int
  | .add, a, b => some (a + b)
  | .sub, a, b => some (a - b)
  | .mul, a, b => some (a * b)
  | _, _, _ => none
def cmp : BinOp → Int → Int → Option Bool
  | .lss, a, b => some (decide (a < b))
  | .leq, a, b => some (decide (a ≤ b))
  | .gtr, a, b => some (decide (b < a))
  | .geq, a, b => some (decide (b ≤ a))
  | .eql, a, b => some (decide (a = b))
  | .neq, a, b => some (decide (a ≠ b))
  | _, _, _ => none

theorem run_arith {op : BinOp} {T : TypeId} {k : IntKind} {a b c : Int} (h : arith op a b = some c) : (binOp op T (.int k a) (.int k b)).run P w = .ok (.int k (k.wrap c)) w := by
  cases op <;> (first | (cases h; done) | (injection h with h; subst h; simp [binOp, Op.intArith]))
theorem run_cmp {op : BinOp} {T : TypeId} {k : IntKind} {a b : Int} {c : Bool} (h : cmp op a b = some c) : (binOp op T (.int k a) (.int k b)).run P w = .ok (.bool c) w := by
  have hne : (a != b) = decide (a ≠ b) := by by_cases h : a = b <;> simp [h]
  have heq : (a == b) = decide (a = b) := by by_cases h : a = b <;> simp [h]
  cases op <;> (first | (cases h; done) | (injection h with h; subst h; simp only [binOp, Op.intCmp, ne_eq, not_true, if_false, hne, heq]; rfl))

theorem wrap64_id {c : Int} (h1 : -9223372036854775808 ≤ c) (h2 : c ≤ 9223372036854775807) : IntKind.i64.wrap c = c := by
  rw [IntKind.wrap_i64]; omega
theorem wl_arith64 {op : BinOp} {T yT : TypeId} {x y : Operand} {a b c : Int} (hx : ev e x = some (.int .i64 a)) (hy : ev e y = some (.int .i64 b)) (hc : arith op a b = some c)
    (h1 : -9223372036854775808 ≤ c) (h2 : c ≤ 9223372036854775807) (hd : Nat.blt d N = true) (h : WL P N ops Q rest ((d, .int .i64 c) :: e) w) :
    WL P N ops Q (⟨some d, .binOp op T x y yT, ty, pos, af, none⟩ :: rest) e w :=
  wl_val (run_bin hx hy (by rw [run_arith hc, wrap64_id h1 h2])) hd h
theorem wl_arith {op : BinOp} {T yT : TypeId} {k : IntKind} {x y : Operand} {a b c : Int} (hx : ev e x = some (.int k a)) (hy : ev e y = some (.int k b)) (hc : arith op a b = some c)
    (hd : Nat.blt d N = true) (h : WL P N ops Q rest ((d, .int k (k.wrap c)) :: e) w) :
    WL P N ops Q (⟨some d, .binOp op T x y yT, ty, pos, af, none⟩ :: rest) e w :=
  wl_val (run_bin hx hy (run_arith hc)) hd h
theorem wl_cmp {op : BinOp} {T yT : TypeId} {k : IntKind} {x y : Operand} {a b : Int} {c : Bool} (hx : ev e x = some (.int k a)) (hy : ev e y = some (.int k b)) (hc : cmp op a b = some c)
    (hd : Nat.blt d N = true) (h : WL P N ops Q rest ((d, .bool c) :: e) w) :
    WL P N ops Q (⟨some d, .binOp op T x y yT, ty, pos, af, none⟩ :: rest) e w :=
  wl_val (run_bin hx hy (run_cmp hc)) hd h
/-- quotient and rest of numbers that are not below 0 -/
def divs : BinOp → Int → Int → Option Int
  | .quo, a, b => some (a / b)
  | .rem, a, b => some (a % b)
  | _, _, _ => none
theorem wl_div {op : BinOp} {T yT : TypeId} {k : IntKind} {x y : Operand} {a b c : Int} (hx : ev e x = some (.int k a)) (hy : ev e y = some (.int k b)) (hc : divs op a b = some c)
    (h0 : 0 ≤ a) (h1 : 0 < b) (h2 : ∀ c, 0 ≤ c → c ≤ a → k.wrap c = c) (hd : Nat.blt d N = true) (h : WL P N ops Q rest ((d, .int k c) :: e) w) :
    WL P N ops Q (⟨some d, .binOp op T x y yT, ty, pos, af, none⟩ :: rest) e w :=
  wl_val (run_bin hx hy (by
    have hb : b ≠ 0 := by omega
    cases op <;> simp [divs] at hc <;> subst hc <;> simp [binOp, Op.intDiv, hb]
    · rw [Int.tdiv_eq_ediv_of_nonneg h0]
      exact h2 _ (Int.ediv_nonneg h0 (by omega)) (Int.ediv_le_self _ h0)
    · exact Int.tmod_eq_emod_of_nonneg h0)) hd h
theorem wl_bits {op : BinOp} {T yT : TypeId} {k : IntKind} {x y : Operand} {a b : Int} {v : Value} (hx : ev e x = some (.int k a)) (hy : ev e y = some (.int k b)) (hc : ∀ w, (Op.intBits op k a b).run P w = .ok v w)
    (ho : op = .and ∨ op = .or ∨ op = .xor ∨ op = .andNot) (hd : Nat.blt d N = true) (h : WL P N ops Q rest ((d, v) :: e) w) :
    WL P N ops Q (⟨some d, .binOp op T x y yT, ty, pos, af, none⟩ :: rest) e w :=
  wl_val (run_bin hx hy (by rcases ho with rfl | rfl | rfl | rfl <;> simp [binOp, hc])) hd h
theorem wl_shift {op : BinOp} {T yT : TypeId} {k yk : IntKind} {x y : Operand} {a b : Int} {v : Value} (hx : ev e x = some (.int k a)) (hy : ev e y = some (.int yk b)) (hc : ∀ w, (Op.shift op k a yk b).run P w = .ok v w)
    (ho : op = .shl ∨ op = .shr) (hd : Nat.blt d N = true) (h : WL P N ops Q rest ((d, v) :: e) w) :
    WL P N ops Q (⟨some d, .binOp op T x y yT, ty, pos, af, none⟩ :: rest) e w :=
  wl_val (fun A hA => by
    have hg : (eqGuard op T x y (.int k a) (.int yk b)).run P w = .ok () w := by
      unfold eqGuard
      split <;> rfl
    rcases ho with rfl | rfl <;> simp [execOp, hA.eval hx, hA.eval hy, hg, binOp, hc]) hd h
theorem wl_not {T : TypeId} {x : Operand} {b : Bool} (hx : ev e x = some (.bool b)) (hd : Nat.blt d N = true) (h : WL P N ops Q rest ((d, .bool (!b)) :: e) w) : WL P N ops Q (⟨some d, .unOp .not T x, ty, pos, af, none⟩ :: rest) e w :=
  wl_val (fun a ha => by simp [execOp, ha.eval hx, Op.unary]) hd h
theorem wl_notD {T : TypeId} {x : Operand} {p : Prop} [Decidable p] (hx : ev e x = some (.bool (decide p))) (hd : Nat.blt d N = true) (h : WL P N ops Q rest ((d, .bool (decide (¬ p))) :: e) w) : WL P N ops Q (⟨some d, .unOp .not T x, ty, pos, af, none⟩ :: rest) e w :=
  wl_not hx hd (by rw [decide_not] at h; exact h)
/-- integers to integers -/
theorem wl_convI {S D : TypeId} {k k' : IntKind} {x : Operand} {n : Int} {dS : TypeDesc} (hS : P.underlying S = some dS) (hD : P.underlying D = some (.int k')) (hx : ev e x = some (.int k n)) (hd : Nat.blt d N = true)
    (h : WL P N ops Q rest ((d, .int k' (k'.wrap n)) :: e) w) : WL P N ops Q (⟨some d, .convert S D x, ty, pos, af, none⟩ :: rest) e w :=
  wl_val (fun a ha => by simp [execOp, ha.eval hx, convert, run_underlying hS, run_underlying hD, Conv.intToInt]) hd h

/-! texts -/
theorem run_binS {op : BinOp} {T yT : TypeId} {x y : Operand} {a b : ByteArray} {v : Value} (hx : ev e x = some (.string a)) (hy : ev e y = some (.string b))
    (h : (Op.stringOp op a b).run P w = .ok v w) (ho : op ≠ .shl ∧ op ≠ .shr) : ∀ A, Sat N e A → (execOp A.eval ⟨some d, .binOp op T x y yT, ty, pos, af, none⟩).run P w = .ok (.value v) w := fun A hA => by
  have hg : (eqGuard op T x y (.string a) (.string b)).run P w = .ok () w := by
    unfold eqGuard
    split <;> rfl
  have hb : binOp op T (.string a) (.string b) = Op.stringOp op a b := by cases op <;> rfl
  simp [execOp, hA.eval hx, hA.eval hy, hg, hb, h]
theorem size_sv (l : Bs) : (⟨l.toArray⟩ : ByteArray).size = l.length := by simp [ByteArray.size]
theorem toList_sv (l : Bs) : (⟨l.toArray⟩ : ByteArray).toList = l := by simp
theorem append_sv (a b : Bs) : ((⟨a.toArray⟩ : ByteArray) ++ ⟨b.toArray⟩) = ⟨(a ++ b).toArray⟩ := by
  apply ByteArray.ext
  simp
theorem wl_cat {T yT : TypeId} {x y : Operand} {a b : Bs} (hx : ev e x = some (sv a)) (hy : ev e y = some (sv b)) (hl : a.length + b.length ≤ 9223372036854775807) (hd : Nat.blt d N = true)
    (h : WL P N ops Q rest ((d, sv (a ++ b)) :: e) w) : WL P N ops Q (⟨some d, .binOp .add T x y yT, ty, pos, af, none⟩ :: rest) e w :=
  wl_val (run_binS hx hy (by
    have : ¬ ((a.length + b.length : Nat) : Int) > IntKind.i64.max := by simp [IntKind.max, IntKind.bits, IntKind.signed]; omega
    simp only [Op.stringOp, size_sv, this, if_false, append_sv]
    rfl) (by simp)) hd h
def blt (a b : Bs) : Bool := Op.bytesLess a b
def cmpS : BinOp → Bs → Bs → Option Bool
  | .lss, a, b => some (blt a b)
  | .leq, a, b => some (blt a b || decide (a = b))
  | .gtr, a, b => some (!(blt a b || decide (a = b)))
  | .geq, a, b => some (!(blt a b))
  | .eql, a, b => some (decide (a = b))
  | .neq, a, b => some (decide (a ≠ b))
  | _, _, _ => none
theorem wl_cmpS {op : BinOp} {T yT : TypeId} {x y : Operand} {a b : Bs} {c : Bool} (hx : ev e x = some (sv a)) (hy : ev e y = some (sv b)) (hc : cmpS op a b = some c) (hd : Nat.blt d N = true)
    (h : WL P N ops Q rest ((d, .bool c) :: e) w) : WL P N ops Q (⟨some d, .binOp op T x y yT, ty, pos, af, none⟩ :: rest) e w :=
  wl_val (run_binS hx hy (by
    have hq : ∀ a b : Bs, (a == b) = decide (a = b) := fun a b => by by_cases h : a = b <;> simp [h]
    cases op <;> (first | (cases hc; done) | (injection hc with hc; subst hc; simp only [Op.stringOp, toList_sv, blt, hq, ne_eq, decide_not]; rfl))) (by constructor <;> rintro rfl <;> simp [cmpS] at hc)) hd h
theorem wl_lenS {T : TypeId} {x : Operand} {a : Bs} (hT : P.underlying T = some .string) (hx : ev e x = some (sv a)) (hd : Nat.blt d N = true)
    (h : WL P N ops Q rest ((d, .int .i64 a.length) :: e) w) : WL P N ops Q (⟨some d, .call ⟨.builtin .len, #[x], #[T]⟩, ty, pos, af, none⟩ :: rest) e w :=
  wl_val (fun A hA => by simp [execOp, resolve, invoke, builtin, hA.eval hx, Builtin.len_, run_underlying hT, size_sv, goInt]) hd h
end
end Tw
/-! ### Operations on memory -/
namespace Tw
open Go Go.RowKit

/-- a value's kind of type: is it a struct or an array? how many cells? -/
def TypeDesc.row : TypeDesc → Bool
  | .struct _ | .array _ _ => true
  | _ => false
/-- type T: is it a struct or an array? of how many cells? -/
class Ty (P : Program) (T : TypeId) (a : outParam Bool) (k : outParam Nat) : Prop where
  out : (P.underlying T).map TypeDesc.row = some a
  sz : (P.info? T).map (·.size) = some k
/-- its zero value's parts -/
class TyZ (P : Program) (T : TypeId) (vs : outParam (List Value)) : Prop where
  out : (P.info? T).map (fun i => i.zero.map (·.cells.toList)) = some (some (fl vs))
  good : (fl vs).all (·.oneCell') = true
def structOf (P : Program) (S : TypeId) : Option (List (TypeId × Nat × Nat)) :=
  match P.underlying S with
  | some (.struct fs) => fs.toList.mapM fun f => (P.info? f.type).map fun i => (f.type, f.offset, i.size)
  | _ => none
class TyS (P : Program) (S : TypeId) (l : outParam (List (TypeId × Nat × Nat))) : Prop where
  out : structOf P S = some l
class TyA (P : Program) (A : TypeId) (n : outParam Nat) (E : outParam TypeId) (k : outParam Nat) : Prop where
  out : P.underlying A = some (.array n E)
  sz : (P.info? E).map (·.size) = some k
class TyI (P : Program) (T : TypeId) (k : outParam IntKind) : Prop where
  out : P.underlying T = some (.int k)
class TyT (P : Program) (T : TypeId) : Prop where
  out : P.underlying T = some .string
class TyP (P : Program) (T : TypeId) (E : outParam TypeId) : Prop where
  out : P.underlying T = some (.pointer E)
class TyL (P : Program) (S : TypeId) (E : outParam TypeId) (k : outParam Nat) (bytes : outParam Nat) : Prop where
  out : P.underlying S = some (.slice E)
  sz : (P.info? E).map (fun i => (i.size, i.bytes)) = some (k, bytes)

theorem good_all {vs : List Value} (h : (fl vs).all (·.oneCell') = true) : Good vs := fun v hv => List.all_eq_true.1 h v hv

/-! places within parts: the parts from cell o on, k cells -/
def takeC : List Value → Nat → Option (List Value)
  | _, 0 => some []
  | [], _ + 1 => none
  | v :: vs, k + 1 => bif Nat.ble v.cells.size (k + 1) then (match takeC vs (k + 1 - v.cells.size) with | some r => some (v :: r) | none => none) else none
def isAggV : Value → Bool
  | .agg _ => true
  | _ => false
def mkV (a : Bool) : List Value → Option Value
  | [] => none
  | [v] => bif a then (bif isAggV v then some v else some (st [v])) else (bif isAggV v then none else some v)
  | v :: u :: r => bif a then some (st (v :: u :: r)) else none
/-- the value of a type (a row? of k cells) at cell o of some parts -/
def getC (a : Bool) (k : Nat) : List Value → Nat → Option Value
  | vs, 0 => (match takeC vs k with | some r => mkV a r | none => none)
  | [], _ + 1 => none
  | v :: vs, o + 1 => bif Nat.ble v.cells.size (o + 1) then (bif Nat.beq v.cells.size 0 then none else getC a k vs (o + 1 - v.cells.size)) else none
/-- what is left behind k cells -/
def dropC : List Value → Nat → Option (List Value)
  | vs, 0 => some vs
  | [], _ + 1 => none
  | v :: vs, k + 1 => bif Nat.ble v.cells.size (k + 1) then dropC vs (k + 1 - v.cells.size) else none
def appO : List Value → List Value → Option (List Value)
  | [], r => some r
  | x :: xs, r => (match appO xs r with | some q => some (x :: q) | none => none)
/-- some parts stored at cell o -/
def putC (k : Nat) (xs : List Value) : List Value → Nat → Option (List Value)
  | vs, 0 => (match dropC vs k with | some r => appO xs r | none => none)
  | [], _ + 1 => none
  | v :: vs, o + 1 => bif Nat.ble v.cells.size (o + 1) then (bif Nat.beq v.cells.size 0 then none else (match putC k xs vs (o + 1 - v.cells.size) with | some r => some (v :: r) | none => none)) else none
theorem appO_spec : ∀ {xs r q : List Value}, appO xs r = some q → q = xs ++ r
  | [], r, q, h => by simpa [appO] using h.symm
  | x :: xs, r, q, h => by
    unfold appO at h
    cases hq : appO xs r with
    | none => simp [hq] at h
    | some p =>
      simp [hq] at h
      subst h
      rw [appO_spec hq]
      rfl
theorem dropC_spec : ∀ {vs : List Value} {k : Nat} {r : List Value}, dropC vs k = some r → ∃ pre, vs = pre ++ r ∧ (fl pre).length = k
  | vs, 0, r, h => by
    have : r = vs := by cases vs <;> simpa [dropC] using h.symm
    subst this
    exact ⟨[], rfl, rfl⟩
  | [], k + 1, r, h => by simp [dropC] at h
  | v :: vs, k + 1, r, h => by
    unfold dropC at h
    cases hb : Nat.ble v.cells.size (k + 1) with
    | false => simp [hb] at h
    | true =>
      have hle : v.cells.size ≤ k + 1 := Nat.le_of_ble_eq_true hb
      simp only [hb, cond_true] at h
      obtain ⟨pre, h1, h2⟩ := dropC_spec h
      refine ⟨v :: pre, by rw [h1]; rfl, ?_⟩
      rw [fl_cons, List.length_append, h2, Array.length_toList]
      omega

theorem takeC_spec : ∀ {vs : List Value} {k : Nat} {r : List Value}, takeC vs k = some r → ∃ post, vs = r ++ post ∧ (fl r).length = k
  | vs, 0, r, h => by
    have : r = [] := by cases vs <;> simpa [takeC] using h.symm
    subst this
    exact ⟨vs, rfl, rfl⟩
  | [], k + 1, r, h => by simp [takeC] at h
  | v :: vs, k + 1, r, h => by
    unfold takeC at h
    cases hb : Nat.ble v.cells.size (k + 1) with
    | false => simp [hb] at h
    | true =>
      have hle : v.cells.size ≤ k + 1 := Nat.le_of_ble_eq_true hb
      cases ht : takeC vs (k + 1 - v.cells.size) with
      | none => simp [hb, ht] at h
      | some r' =>
        simp [hb, ht] at h
        subst h
        obtain ⟨post, h1, h2⟩ := takeC_spec ht
        refine ⟨post, by rw [h1]; rfl, ?_⟩
        rw [fl_cons, List.length_append, h2, Array.length_toList]
        omega
theorem mkV_cells {a : Bool} {r : List Value} {v : Value} (h : mkV a r = some v) (hg : Good r) : v.cells.toList = fl r ∧ (a = true → v = .agg (fl r).toArray) ∧ (a = false → fl r = [v]) := by
  match r, h with
  | [u], h =>
    cases a with
    | true =>
      cases hu : isAggV u with
      | true =>
        simp [mkV, hu] at h
        subst h
        cases u <;> simp [isAggV] at hu
        simp [Value.cells]
      | false =>
        simp [mkV, hu] at h
        subst h
        simp [st, Value.cells]
    | false =>
      cases hu : isAggV u with
      | true => simp [mkV, hu] at h
      | false =>
        simp [mkV, hu] at h
        subst h
        have : u.cells = #[u] := by cases u <;> first | rfl | simp [isAggV] at hu
        simp [this]
  | u :: t :: r, h =>
    cases a with
    | true => simp [mkV] at h; subst h; simp [st, Value.cells]
    | false => simp [mkV] at h
theorem getC_spec {a : Bool} {k : Nat} : ∀ {vs : List Value} {o : Nat} {v : Value}, getC a k vs o = some v → Good vs →
    ∃ x y, fl vs = x ++ v.cells.toList ++ y ∧ x.length = o ∧ v.cells.size = k ∧ (a = true → v = .agg v.cells) ∧ (a = false → v.cells = #[v])
  | vs, 0, v, h, hg => by
    have h' : (match takeC vs k with | some r => mkV a r | none => none) = some v := by cases vs <;> exact h
    cases ht : takeC vs k with
    | none => simp [ht] at h'
    | some r =>
      simp [ht] at h'
      obtain ⟨post, h1, h2⟩ := takeC_spec ht
      obtain ⟨e1, e2, e3⟩ := mkV_cells h' (hg.of_sub (by intro x hx; rw [h1]; simp [hx]))
      refine ⟨[], fl post, by rw [h1, fl_append, e1]; rfl, rfl, by rw [← Array.length_toList, e1, h2], fun ha => ?_, fun ha => ?_⟩
      · rw [e2 ha]; rfl
      · have := e3 ha
        rw [← e1] at this
        exact Array.ext' this
  | [], o + 1, v, h, _ => by simp [getC] at h
  | u :: vs, o + 1, v, h, hg => by
    unfold getC at h
    cases hb : Nat.ble u.cells.size (o + 1) with
    | false => simp [hb] at h
    | true =>
      cases hz : Nat.beq u.cells.size 0 with
      | true => simp [hb, hz] at h
      | false =>
        simp only [hb, hz, cond_true, cond_false] at h
        have hle : u.cells.size ≤ o + 1 := Nat.le_of_ble_eq_true hb
        have hpos : u.cells.size ≠ 0 := Nat.ne_of_beq_eq_false hz
        obtain ⟨x, y, e1, e2, e3⟩ := getC_spec h (hg.of_sub (by intro z hz; simp [hz]))
        refine ⟨u.cells.toList ++ x, y, by rw [fl_cons, e1]; simp, by rw [List.length_append, e2, Array.length_toList]; omega, e3⟩
termination_by vs => vs.length
theorem putC_spec {k : Nat} {xs : List Value} : ∀ {vs : List Value} {o : Nat} {vs' : List Value}, putC k xs vs o = some vs' → (fl xs).length = k → Good vs → Good xs →
    ∃ x m y, fl vs = x ++ m ++ y ∧ fl vs' = x ++ fl xs ++ y ∧ x.length = o ∧ m.length = k ∧ Good vs'
  | vs, 0, vs', h, hk, hg, hx => by
    have h' : (match dropC vs k with | some r => appO xs r | none => none) = some vs' := by cases vs <;> exact h
    cases ht : dropC vs k with
    | none => simp [ht] at h'
    | some r =>
      simp only [ht] at h'
      obtain ⟨pre, h1, h2⟩ := dropC_spec ht
      have h' := appO_spec h'
      subst h'
      exact ⟨[], fl pre, fl r, by rw [h1, fl_append]; rfl, by simp, rfl, h2, hx.append (hg.of_sub (by intro z hz; rw [h1]; simp [hz]))⟩
  | [], o + 1, v, h, _, _, _ => by simp [putC] at h
  | u :: vs, o + 1, vs', h, hk, hg, hx => by
    unfold putC at h
    cases hb : Nat.ble u.cells.size (o + 1) with
    | false => simp [hb] at h
    | true =>
      cases hz : Nat.beq u.cells.size 0 with
      | true => simp [hb, hz] at h
      | false =>
        simp only [hb, hz, cond_true, cond_false] at h
        have hle : u.cells.size ≤ o + 1 := Nat.le_of_ble_eq_true hb
        have hpos : u.cells.size ≠ 0 := Nat.ne_of_beq_eq_false hz
        cases hp : putC k xs vs (o + 1 - u.cells.size) with
        | none => simp [hp] at h
        | some r =>
          simp [hp] at h
          subst h
          obtain ⟨x, m, y, e1, e2, e3, e4, e5⟩ := putC_spec hp hk (hg.of_sub (by intro z hz; simp [hz])) hx
          exact ⟨u.cells.toList ++ x, m, y, by rw [fl_cons, e1]; simp, by rw [fl_cons, e2]; simp, by rw [List.length_append, e3, Array.length_toList]; omega, e4, Good.cons (hg.one (by simp)) e5⟩
termination_by vs => vs.length

/-- a piece among the pieces, and another one put in its place -/
inductive Upd : List Piece → Piece → Piece → List Piece → Prop
  | here {p p' : Piece} {m : List Piece} : Upd (p :: m) p p' (p' :: m)
  | there {q p p' : Piece} {m m' : List Piece} : Upd m p p' m' → Upd (q :: m) p p' (q :: m')
theorem Upd.parts {m m' : List Piece} {p p' : Piece} (h : Upd m p p' m') : ∃ pre post, m = pre ++ p :: post ∧ m' = pre ++ p' :: post := by
  induction h with
  | here => exact ⟨[], _, rfl, rfl⟩
  | there _ ih =>
    obtain ⟨pre, post, h1, h2⟩ := ih
    exact ⟨_ :: pre, post, by rw [h1]; rfl, by rw [h2]; rfl⟩
inductive Has : List Piece → Piece → Prop
  | here {p : Piece} {m : List Piece} : Has (p :: m) p
  | there {q p : Piece} {m : List Piece} : Has m p → Has (q :: m) p
theorem Has.mem {m : List Piece} {p : Piece} (h : Has m p) : p ∈ m := by
  induction h with
  | here => simp
  | there _ ih => simp [ih]

section
variable {P : Program} {N : Nat} {ops : Array Oper} {Q : Exit → Act → World → Prop} {rest : List Oper} {e : Env} {w w' : World} {d : Nat} {ty : TypeId} {pos : String} {af : Array Edge}
  {s : Base} {ok : Nat → Prop} {m : List Piece}

theorem run_isAgg {T : TypeId} {a : Bool} {k : Nat} (t : Ty P T a k) : (isAgg T).run P w = .ok a w := by
  obtain ⟨h, _⟩ := t
  cases hu : P.underlying T with
  | none => simp [hu] at h
  | some dd =>
    simp [hu] at h
    unfold isAgg
    rw [Sem.run_bind, run_underlying hu w]
    cases dd <;> simp [TypeDesc.row] at h <;> subst h <;> rfl
theorem run_sizeOf {T : TypeId} {k : Nat} (h : (P.info? T).map (·.size) = some k) : (Go.sizeOf T).run P w = .ok k w := by
  cases hq : P.info? T with
  | none => simp [hq] at h
  | some i =>
    simp [hq] at h
    simp [Go.sizeOf, typeInfo, hq, h]
/-- a value of the type lies at b, o -/
theorem run_loadVar_rg {T : TypeId} {a : Bool} {k : Nat} (t : Ty P T a k) {b o : Nat} {v : Value} (hr : Rg w b o v.cells.toList) (hk : v.cells.size = k) (h1 : a = true → v = .agg v.cells) (h2 : a = false → v.cells = #[v]) :
    (loadVar T ⟨b, o, none⟩).run P w = .ok v w := by
  unfold loadVar
  rw [Sem.run_bind, run_isAgg t]
  cases a with
  | true =>
    have hl := run_loadCells_rg (P := P) hr
    rw [Array.length_toList, hk] at hl
    simp [run_sizeOf t.sz, hl]
    exact (h1 rfl).symm
  | false =>
    have hc : w.cell? ⟨b, o, none⟩ = some v := by
      have := hr.cell (j := 0) (v := v) (by rw [h2 rfl]; rfl)
      simpa using this
    simp [load, Sem.run, hc]
theorem wl_loadP {T : TypeId} {x : Operand} {b o : Nat} {v : Value} (hx : ev e x = some (.pointer (some ⟨b, o, none⟩))) (hrun : (loadVar T ⟨b, o, none⟩).run P w = .ok v w) (hd : Nat.blt d N = true)
    (h : WL P N ops Q rest ((d, v) :: e) w) : WL P N ops Q (⟨some d, .load T x, ty, pos, af, none⟩ :: rest) e w :=
  wl_val (fun A hA => by simp [execOp, hA.eval hx, Instr.loadAt, Instr.sureAddr, hrun]) hd h
/-- out of a variable of one's own -/
theorem wl_load {T : TypeId} {a : Bool} {k : Nat} [t : Ty P T a k] {x : Operand} {g o : Nat} {T0 : TypeId} {vs : List Value} {v : Value} (hS : St s ok m w) (hx : ev e x = some (.pointer (some ⟨g, o, none⟩))) (hm : Has m (.var g T0 vs))
    (hv : getC a k vs o = some v) (hd : Nat.blt d N = true) (h : WL P N ops Q rest ((d, v) :: e) w) : WL P N ops Q (⟨some d, .load T x, ty, pos, af, none⟩ :: rest) e w := by
  obtain ⟨hb, hg⟩ := hS.at_ _ hm.mem
  obtain ⟨x', y, e1, e2, e3, e4, e5⟩ := getC_spec hv hg
  have hr := Rg.of_block hb
  rw [e1] at hr
  have hr' := hr.mid
  rw [e2, Nat.zero_add] at hr'
  exact wl_loadP hx (run_loadVar_rg t hr' e3 e4 e5) hd h
/-- out of data: the whole -/
theorem wl_loadD {T : TypeId} {a : Bool} {k : Nat} [t : Ty P T a k] {x : Operand} {b o : Nat} {v : Value} (hx : ev e x = some (.pointer (some ⟨b, o, none⟩))) (hr : Rg w b o v.cells.toList) (hk : v.cells.size = k)
    (hv : isAggV v = a) (hd : Nat.blt d N = true) (h : WL P N ops Q rest ((d, v) :: e) w) : WL P N ops Q (⟨some d, .load T x, ty, pos, af, none⟩ :: rest) e w :=
  wl_loadP hx (run_loadVar_rg t hr hk (fun ha => by subst ha; cases v <;> simp [isAggV] at hv; rfl) (fun ha => by subst ha; cases v <;> first | rfl | simp [isAggV] at hv)) hd h
/-- out of data: a part -/
theorem wl_loadF {T : TypeId} {a : Bool} {k : Nat} [t : Ty P T a k] {x : Operand} {b o i : Nat} {vs : List Value} {v : Value} (hx : ev e x = some (.pointer (some ⟨b, o + i, none⟩))) (hr : Rg w b o (st vs).cells.toList) (hg : Good vs)
    (hv : getC a k vs i = some v) (hd : Nat.blt d N = true) (h : WL P N ops Q rest ((d, v) :: e) w) : WL P N ops Q (⟨some d, .load T x, ty, pos, af, none⟩ :: rest) e w := by
  obtain ⟨x', y, e1, e2, e3, e4, e5⟩ := getC_spec hv hg
  have hr' : Rg w b o (x' ++ v.cells.toList ++ y) := by rw [← e1]; simpa using hr
  have hr2 := hr'.mid
  rw [e2] at hr2
  exact wl_loadP hx (run_loadVar_rg t hr2 e3 e4 e5) hd h

theorem run_storeVar_at {T : TypeId} {k : Nat} (hz : (P.info? T).map (·.size) = some k) {g o : Nat} {T0 : TypeId} {C : Array Value} {v : Value} (hb : w.heap[g]? = some (.cells C T0 (0, 0))) (hk : v.cells.size = k) (ho : o + k ≤ C.size) (h1 : One v.cells.toList) :
    (storeVar T ⟨g, o, none⟩ v).run P w = .ok () (w.setRow g (C.toList.take o ++ v.cells.toList ++ C.toList.drop (o + k)).toArray) := by
  have := run_storeCells_at (P := P) g o T0 v.cells.toList 0 C w hb (by simpa [hk] using ho) h1
  simp only [Nat.add_zero, Array.length_toList, hk] at this
  unfold storeVar
  rw [Sem.run_bind, run_sizeOf hz]
  simp [hk, this]
/-- the parts of which a value is stored -/
theorem wl_store {T : TypeId} {a : Bool} {k : Nat} [t : Ty P T a k] {x y : Operand} {g o : Nat} {T0 : TypeId} {vs vs' xs : List Value} {u : Value} {m' : List Piece} (hS : St s ok m w) (hx : ev e x = some (.pointer (some ⟨g, o, none⟩)))
    (hy : ev e y = some u) (hxs : u.cells.toList = fl xs) (hgx : Good xs) (hk : u.cells.size = k) (hu : Upd m (.var g T0 vs) (.var g T0 vs') m') (hp : putC k xs vs o = some vs')
    (h : ∀ w', St s ok m' w' → Stp ok w ok w' → WL P N ops Q rest e w') : WL P N ops Q (⟨none, .store T x y, ty, pos, af, none⟩ :: rest) e w := by
  obtain ⟨pre, post, rfl, rfl⟩ := hu.parts
  obtain ⟨hb, hg⟩ := hS.at_ (.var g T0 vs) (by simp)
  have hkx : (fl xs).length = k := by rw [← hxs, Array.length_toList, hk]
  obtain ⟨p, q, r, e1, e2, e3, e4, e5⟩ := putC_spec hp hkx hg hgx
  have hrun := run_storeVar_at (P := P) t.sz (v := u) (o := o) hb hk (by simp [e1, e3, e4]) (by rw [hxs]; exact hgx)
  have hC : ((fl vs).toArray.toList.take o ++ u.cells.toList ++ (fl vs).toArray.toList.drop (o + k)) = fl vs' := by
    simp only [e1, e2, hxs]
    have h1 : (p ++ q ++ r).take o = p := by rw [← e3, List.append_assoc, List.take_left]
    have h2 : (p ++ q ++ r).drop (o + k) = r := by rw [← e3, ← e4, ← List.length_append, List.drop_left]
    rw [h1, h2]
  rw [hC] at hrun
  obtain ⟨hS', hE⟩ := hS.write (p := .var g T0 vs) (p' := .var g T0 vs') (w' := w.setRow g (fl vs').toArray) ⟨setRow_heap w g _ _ T0 (0, 0) hb, e5⟩ rfl rfl (by simp) rfl rfl rfl (fun b hne => setRow_other w g b _ hne)
  exact wl_skip (fun A hA => by simp [execOp, hA.eval hx, hA.eval hy, Instr.storeAt, Instr.sureAddr, hrun]) (h _ hS' hE)
theorem wl_nilCheck {x : Operand} {p : Addr} (hx : ev e x = some (.pointer (some p))) (hd : Nat.blt d N = true) (h : WL P N ops Q rest ((d, .pointer (some p)) :: e) w) : WL P N ops Q (⟨some d, .nilCheck x, ty, pos, af, none⟩ :: rest) e w :=
  wl_val (fun A hA => by simp [execOp, hA.eval hx]) hd h
theorem wl_extract {x : Operand} {i : Nat} {vs : Array Value} {v : Value} (hx : ev e x = some (.tuple vs)) (hv : vs[i]? = some v) (hd : Nat.blt d N = true) (h : WL P N ops Q rest ((d, v) :: e) w) : WL P N ops Q (⟨some d, .extract x i, ty, pos, af, none⟩ :: rest) e w :=
  wl_val (fun A hA => by simp [execOp, hA.eval hx, Instr.extract, hv]) hd h
theorem mapM_spec {α β : Type} {f : α → Option β} : ∀ {as : List α} {l : List β}, as.mapM f = some l → as.length = l.length ∧ ∀ (j : Nat) (b : β), l[j]? = some b → ∃ a, as[j]? = some a ∧ f a = some b
  | [], l, h => by simp at h; subst h; simp
  | a :: as, l, h => by
    simp only [List.mapM_cons] at h
    cases hf : f a with
    | none => simp [hf] at h
    | some y =>
      cases hr : as.mapM f with
      | none => simp [hf, hr] at h
      | some r =>
        simp [hf, hr] at h
        subst h
        obtain ⟨h1, h2⟩ := mapM_spec hr
        refine ⟨by simp [h1], fun j b hj => ?_⟩
        cases j with
        | zero =>
          simp at hj
          exact ⟨a, rfl, by rw [hf, hj]⟩
        | succ j => exact h2 j b (by simpa using hj)
theorem structOf_spec {S : TypeId} {l : List (TypeId × Nat × Nat)} (h : structOf P S = some l) :
    ∃ fs : Array Field, P.underlying S = some (.struct fs) ∧ fs.size = l.length ∧ ∀ (i : Nat) (T off z : Nat), l[i]? = some (T, off, z) → ∃ f, fs[i]? = some f ∧ f.type = T ∧ f.offset = off ∧ (P.info? T).map (·.size) = some z := by
  unfold structOf at h
  split at h
  · rename_i fs hu
    obtain ⟨h1, h2⟩ := mapM_spec h
    refine ⟨fs, hu, by simpa using h1, fun i T off z hi => ?_⟩
    obtain ⟨f, hf1, hf2⟩ := h2 i _ hi
    cases hq : P.info? f.type with
    | none => simp [hq] at hf2
    | some inf =>
      simp [hq] at hf2
      obtain ⟨e1, e2, e3⟩ := hf2
      refine ⟨f, by rw [← Array.getElem?_toList]; exact hf1, e1, e2, ?_⟩
      rw [← e1, hq, ← e3]
      rfl
  · simp at h
theorem wl_fieldAddr {S : TypeId} {l : List (TypeId × Nat × Nat)} [t : TyS P S l] {x : Operand} {i : Nat} {b o T off z : Nat} (hx : ev e x = some (.pointer (some ⟨b, o, none⟩))) (hi : l[i]? = some (T, off, z)) (hz : Nat.beq z 0 = false) (hd : Nat.blt d N = true)
    (h : WL P N ops Q rest ((d, .pointer (some ⟨b, o + off, none⟩)) :: e) w) : WL P N ops Q (⟨some d, .fieldAddr S x i, ty, pos, af, none⟩ :: rest) e w := by
  obtain ⟨fs, hu, _, hfs⟩ := structOf_spec t.out
  obtain ⟨f, hfi, hft, hfo, hfz⟩ := hfs i T off z hi
  have hzne : z ≠ 0 := Nat.ne_of_beq_eq_false hz
  subst hft
  subst hfo
  exact wl_val (fun A hA => by simp [execOp, hA.eval hx, Instr.fieldAt, run_underlying hu, hfi, Instr.sureAddr, fieldPlace, run_sizeOf hfz, hzne, add_mid]) hd h
end
end Tw
/-! ### New memory; slices; calls -/
namespace Tw
open Go Go.RowKit
section
variable {P : Program} {N : Nat} {ops : Array Oper} {Q : Exit → Act → World → Prop} {rest : List Oper} {e : Env} {w w' : World} {d : Nat} {ty : TypeId} {pos : String} {af : Array Edge}
  {s : Base} {ok : Nat → Prop} {m : List Piece}

/-- a new variable, of zero value -/
theorem wl_alloc {T : TypeId} {vs : List Value} [t : TyZ P T vs] (hS : St s ok m w) (hd : Nat.blt d N = true)
    (h : ∀ g ok' w', St s ok' (.var g T vs :: m) w' → Ex ok w ok' w' → w.heap.size ≤ g → WL P N ops Q rest ((d, .pointer (some ⟨g, 0, none⟩)) :: e) w') : WL P N ops Q (⟨some d, .alloc T, ty, pos, af, none⟩ :: rest) e w := by
  have ht := t.out
  cases hq : P.info? T with
  | none => simp [hq] at ht
  | some i =>
    cases hz : i.zero with
    | none => simp [hq, hz] at ht
    | some z =>
      simp [hq, hz] at ht
      obtain ⟨h1, h2⟩ := hS.newVar T vs (good_all t.good)
      have hc : z.cells = (fl vs).toArray := by rw [← ht]
      exact wl_val (w' := w.alloc (.cells (fl vs).toArray T)) (fun A hA => by simp [execOp, Instr.alloc, zeroValue, typeInfo, hq, hz, newVar, newRow, newObj, Sem.run, hc]) hd (h _ _ _ h1 h2 (Nat.le_refl _))
/-- a new variable that holds x -/
theorem wl_box {T : TypeId} {x : Operand} {u : Value} {xs : List Value} (hS : St s ok m w) (hx : ev e x = some u) (hxs : u.cells.toList = fl xs) (hg : Good xs) (hd : Nat.blt d N = true)
    (h : ∀ g ok' w', St s ok' (.var g T xs :: m) w' → Ex ok w ok' w' → w.heap.size ≤ g → WL P N ops Q rest ((d, .pointer (some ⟨g, 0, none⟩)) :: e) w') : WL P N ops Q (⟨some d, .box T x, ty, pos, af, none⟩ :: rest) e w := by
  obtain ⟨h1, h2⟩ := hS.newVar T xs hg
  have hc : u.cells = (fl xs).toArray := by rw [← hxs]
  exact wl_val (w' := w.alloc (.cells (fl xs).toArray T)) (fun A hA => by simp [execOp, hA.eval hx, Instr.box, newVar, newRow, newObj, Sem.run, hc]) hd (h _ _ _ h1 h2 (Nat.le_refl _))

/-! a struct out of parts -/
/-- the parts of a struct literal: each field's own value, or its zero value -/
def setParts (zs : List Value) : List (Nat × Value) → List Value
  | [] => zs
  | p :: r => setParts (zs.set p.1 p.2) r
/-- places and sizes of fields fit the zero parts -/
def fits : Nat → List (TypeId × Nat × Nat) → List Value → Bool
  | _, [], [] => true
  | o, f :: l, z :: zs => Nat.beq f.2.1 o && Nat.beq f.2.2 z.cells.size && fits (o + z.cells.size) l zs
  | _, _, _ => false

/-- a function that has a body -/
class FnB (P : Program) (f : FuncId) : Prop where
  out : (P.funcs[f]?).map (fun fn => fn.body.isSome && !(fn.name == "runtime.NumGoroutine")) = some true
theorem FnB.run {f : FuncId} (h : FnB P f) (args : Array Value) (w : World) : (callFunc f args).run P w = .ok (.enter f args) w := by
  have h := h.out
  cases hf : P.funcs[f]? with
  | none => simp [hf] at h
  | some fn =>
    simp [hf] at h
    have hb : fn.body ≠ none := by intro h0; simp [h0] at h
    simp [callFunc, program, Sem.run, hf, hb, h.2]
/-- what a call comes to: it returns v with R -/
def Ret (P : Program) (f : FuncId) (args : List Value) (w : World) (R : Value → World → Prop) : Prop := Calls P f args.toArray w fun x w' => ∃ v, x = .returned v ∧ R v w'
theorem Ret.mono {f : FuncId} {args : List Value} {R R' : Value → World → Prop} (h : Ret P f args w R) (hr : ∀ v w', R v w' → R' v w') : Ret P f args w R' :=
  Calls.mono h fun _ w' ⟨v, e, r⟩ => ⟨v, e, hr v w' r⟩
/-- a call of a function by its name -/
theorem wl_call {f : FuncId} [hf : FnB P f] {xs : List Operand} {ts : Array TypeId} {vs : List Value} {R : Value → World → Prop} (hx : evs e xs = some vs)
    (hc : Ret P f vs w R) (hd : Nat.blt d N = true)
    (h : ∀ v w', R v w' → WL P N ops Q rest ((d, v) :: e) w') : WL P N ops Q (⟨some d, .call ⟨.value (.func f), xs.toArray, ts⟩, ty, pos, af, none⟩ :: rest) e w := fun a ha =>
  wpList_plain rfl fun K hK => by
    have hrun : (execOp a.eval ⟨some d, .call ⟨.value (.func f), xs.toArray, ts⟩, ty, pos, af, none⟩).run P w = .ok (.enter f vs.toArray) w := by
      have hev : a.eval (.func f) = .func (.func f) #[] #[] := rfl
      simp [execOp, resolve, ha.evals hx, hev, Deferred.ofValue, invoke, hf.run]
    unfold Oper.wp
    rw [hrun]
    exact Calls.mono hc fun x w' hxx => by
      obtain ⟨v, rfl, hR⟩ := hxx
      exact hK _ _ (h v w' hR _ (ha.put hd))

/-! ### A function's beginning and end -/
def argE : Nat → List Value → Env
  | _, [] => []
  | i, v :: vs => (i, v) :: argE (i + 1) vs
theorem argE_lk : ∀ (vs : List Value) (i t : Nat) (v : Value), lk (argE i vs) t = some v → i ≤ t ∧ vs[t - i]? = some v
  | [], i, t, v, h => by simp [argE, lk] at h
  | u :: vs, i, t, v, h => by
    unfold argE lk at h
    by_cases hi : i = t
    · subst hi
      simp at h
      simp [h]
    · simp [beq_ff hi] at h
      obtain ⟨h1, h2⟩ := argE_lk vs (i + 1) t v h
      refine ⟨by omega, ?_⟩
      rw [show t - i = (t - (i + 1)) + 1 by omega]
      simpa using h2
theorem ret_enter {f : FuncId} {fn : Func} {c : Code} {args : List Value} {R : Value → World → Prop} (hf : P.funcs[f]? = some fn) (hb : fn.body = some c) (hN : fn.ntmps = N) (hl' : Nat.ble args.length N = true)
    (h : WC P N c (bodyPost P fn fun x w' => ∃ v, x = .returned v ∧ R v w') (argE 0 args) w) : Ret P f args w R := by
  have hl : args.length ≤ N := Nat.le_of_ble_eq_true hl'
  refine calls_of_wp hf hb (h _ ⟨?_, rfl, ?_⟩)
  · simp [hN]; omega
  · intro t v ht
    obtain ⟨_, h2⟩ := argE_lk args 0 t v ht
    have hlt : t < args.length := by simpa using (List.getElem?_eq_some_iff.1 h2).1
    simp only [Nat.sub_zero] at h2
    have h3 : args[t] = v := (List.getElem?_eq_some_iff.1 h2).2
    simp [Array.getElem?_append, hlt, h3]

/-- a result is v -/
def Res (P : Program) (N : Nat) (e : Env) (w : World) (r : ResultVar) (v : Value) : Prop := ∀ a, Sat N e a → (match r with
  | .tmp t => a.tmps.getD t undef = v
  | .cell x t => ∃ p, a.tmps.getD x undef = .pointer (some p) ∧ (loadVar t p).run P w = .ok v w)
theorem res_tmp {t : Nat} {v : Value} (h : lk e t = some v) : Res P N e w (.tmp t) v := fun _ ha => ha.env t v h
theorem res_cell {x : Nat} {T : TypeId} {a : Bool} {k : Nat} [t : Ty P T a k] {g : Nat} {T0 : TypeId} {vs : List Value} {v : Value} (hS : St s ok m w) (hx : lk e x = some (.pointer (some ⟨g, 0, none⟩))) (hm : Has m (.var g T0 vs))
    (hv : getC a k vs 0 = some v) : Res P N e w (.cell x T) v := fun A hA => by
  obtain ⟨hb, hg⟩ := hS.at_ _ hm.mem
  obtain ⟨x', y, e1, e2, e3, e4, e5⟩ := getC_spec hv hg
  have hr := Rg.of_block hb
  rw [e1] at hr
  have hr' := hr.mid
  rw [e2, Nat.zero_add] at hr'
  exact ⟨_, hA.env x _ hx, run_loadVar_rg t hr' e3 e4 e5⟩
section
variable {fn : Func} {R : Value → World → Prop}
theorem we_ret0 (hr : fn.results = #[]) (h : R (.tuple #[]) w) : WE N .ret (bodyPost P fn fun x w' => ∃ v, x = .returned v ∧ R v w') e w := fun a ha =>
  ⟨ha.defers, .tuple #[], by simp [results, hr], _, rfl, h⟩
theorem we_ret1 {r : ResultVar} {v : Value} (hr : fn.results = #[r]) (h1 : Res P N e w r v) (h : R v w) : WE N .ret (bodyPost P fn fun x w' => ∃ v, x = .returned v ∧ R v w') e w := fun a ha => by
  refine ⟨ha.defers, v, ?_, _, rfl, h⟩
  have h1 := h1 a ha
  cases r with
  | tmp t => simp at h1; simp [results, hr, h1]
  | cell x t => simp at h1; obtain ⟨p, hp, hl⟩ := h1; simp [results, hr, hp, hl, asAddr]
theorem we_ret2 {r1 r2 : ResultVar} {v1 v2 : Value} (hr : fn.results = #[r1, r2]) (h1 : Res P N e w r1 v1) (h2 : Res P N e w r2 v2) (h : R (.tuple #[v1, v2]) w) : WE N .ret (bodyPost P fn fun x w' => ∃ v, x = .returned v ∧ R v w') e w := fun a ha => by
  refine ⟨ha.defers, .tuple #[v1, v2], ?_, _, rfl, h⟩
  have h1 := h1 a ha
  have h2 := h2 a ha
  cases r1 with
  | tmp t =>
    simp at h1
    cases r2 with
    | tmp u => simp at h2; simp [results, hr, h1, h2]
    | cell x u => simp at h2; obtain ⟨p, hp, hl⟩ := h2; simp [results, hr, hp, hl, asAddr, h1]
  | cell x t =>
    simp at h1
    obtain ⟨p, hp, hl⟩ := h1
    cases r2 with
    | tmp u => simp at h2; simp [results, hr, hp, hl, asAddr, h2]
    | cell x u => simp at h2; obtain ⟨p2, hp2, hl2⟩ := h2; simp [results, hr, hp, hl, hp2, hl2, asAddr]
theorem we_end0 (hr : fn.results = #[]) (h : R (.tuple #[]) w) : WE N .normal (bodyPost P fn fun x w' => ∃ v, x = .returned v ∧ R v w') e w := fun a ha =>
  ⟨ha.defers, .tuple #[], by simp [results, hr], _, rfl, h⟩
end
end
end Tw
/-! ### Literals -/
namespace Tw
open Go Go.RowKit

theorem foldl_set (off : Nat) : ∀ (v : List Value) (n : Nat) (cells : Array Value), off + n + v.length ≤ cells.size →
    (v.zipIdx n).foldl (fun (cs : Array Value) (x : Value × Nat) => cs.setIfInBounds (off + x.2) x.1) cells = (cells.toList.take (off + n) ++ v ++ cells.toList.drop (off + n + v.length)).toArray
  | [], n, cells, _ => by simp
  | c :: v, n, cells, h => by
    simp only [List.length_cons] at h
    simp only [List.zipIdx_cons, List.foldl_cons]
    rw [foldl_set off v (n + 1) _ (by simp; omega)]
    apply Array.ext'
    simp only [Array.toList_setIfInBounds, List.length_cons]
    have hlt : off + n < cells.toList.length := by simp; omega
    rw [List.drop_set_of_lt (by omega), show off + (n + 1) = (off + n) + 1 by omega, List.take_succ_eq_append_getElem (by simpa using hlt), List.take_set_of_le (Nat.le_refl _)]
    simp
    omega

/-- one part put into the parts -/
def setL : List Value → Nat → Value → Option (List Value)
  | [], _, _ => none
  | z :: zs, 0, v => bif Nat.beq z.cells.size v.cells.size then some (v :: zs) else none
  | z :: zs, i + 1, v => (match setL zs i v with | some r => some (z :: r) | none => none)
theorem setL_spec : ∀ {zs : List Value} {i : Nat} {v : Value} {r : List Value}, setL zs i v = some r → ∃ z, zs[i]? = some z ∧ z.cells.size = v.cells.size ∧ r = zs.set i v
  | [], _, _, _, h => by simp [setL] at h
  | z :: zs, 0, v, r, h => by
    cases hb : Nat.beq z.cells.size v.cells.size with
    | false => simp [setL, hb] at h
    | true =>
      simp [setL, hb] at h
      subst h
      exact ⟨z, rfl, Nat.eq_of_beq_eq_true hb, rfl⟩
  | z :: zs, i + 1, v, r, h => by
    unfold setL at h
    cases hq : setL zs i v with
    | none => simp [hq] at h
    | some p =>
      simp [hq] at h
      subst h
      obtain ⟨y, h1, h2, h3⟩ := setL_spec hq
      exact ⟨y, by simpa using h1, h2, by rw [h3]; rfl⟩
/-- parts put into the zero parts -/
def setP (zs : List Value) : List Nat → List Value → Option (List Value)
  | [], [] => some zs
  | i :: is, v :: vs => (match setL zs i v with
    | some zs' => setP zs' is vs
    | none => none)
  | _, _ => none

theorem fl_set {zs : List Value} {i : Nat} (hi : i < zs.length) (v : Value) : fl (zs.set i v) = fl (zs.take i) ++ v.cells.toList ++ fl (zs.drop (i + 1)) := by
  rw [List.set_eq_take_append_cons_drop, if_pos hi, fl_append, fl_cons, List.append_assoc]

theorem fill_setP {place : Nat → Option (Nat × Nat)} : ∀ {is : List Nat} {vs zs rs : List Value}, (∀ i z, zs[i]? = some z → place i = some ((fl (zs.take i)).length, z.cells.size)) → setP zs is vs = some rs → Instr.fill place (fl zs).toArray (is.zip vs) = some (fl rs).toArray ∧ rs.length = zs.length
  | [], [], zs, rs, _, h => by simp [setP] at h; subst h; simp [Instr.fill]
  | [], v :: vs, zs, rs, _, h => by simp [setP] at h
  | i :: is, [], zs, rs, _, h => by simp [setP] at h
  | i :: is, v :: vs, zs, rs, hp, h => by
    unfold setP at h
    cases hq : setL zs i v with
    | none => simp [hq] at h
    | some zs' =>
        simp only [hq] at h
        obtain ⟨z, hz, hsz, rfl⟩ := setL_spec hq
        obtain ⟨hi, hzi⟩ := List.getElem?_eq_some_iff.1 hz
        have hsplit : fl zs = fl (zs.take i) ++ z.cells.toList ++ fl (zs.drop (i + 1)) := by rw [fl_split hi, hzi]
        have ih := fill_setP (place := place) (is := is) (vs := vs) (zs := zs.set i v) (rs := rs) (by
          intro j u hj
          by_cases hji : j = i
          · subst hji
            rw [List.getElem?_set_self hi] at hj
            injection hj with hj
            subst hj
            rw [hp j z hz, List.take_set_of_le (Nat.le_refl _), hsz]
          · rw [List.getElem?_set_ne (fun e => hji e.symm)] at hj
            rw [hp j u hj]
            congr 2
            rcases Nat.lt_or_ge i j with h1 | h1
            · have hjl : j ≤ zs.length := Nat.le_of_lt (List.getElem?_eq_some_iff.1 hj).1
              have e1 : zs.take j = (zs.take i) ++ z :: ((zs.take j).drop (i + 1)) := by
                conv => lhs; rw [← List.take_append_drop i (zs.take j)]
                rw [List.take_take, Nat.min_eq_left (by omega), List.drop_eq_getElem_cons (by simp; omega)]
                simp [hzi]
              have e2 : (zs.set i v).take j = (zs.take i) ++ v :: ((zs.take j).drop (i + 1)) := by
                rw [List.take_set, List.set_eq_take_append_cons_drop, if_pos (by simp; omega), List.take_take, Nat.min_eq_left (by omega)]
              rw [e1, e2]
              simp [hsz]
            · rw [List.take_set_of_le h1]) h
        simp only [List.zip_cons_cons, Instr.fill]
        rw [hp i z hz]
        simp only [hsz, ne_eq, not_true, decide_false, Bool.false_or]
        have hfit : (fl (zs.take i)).length + v.cells.size ≤ (fl zs).length := by rw [hsplit]; simp [hsz]
        rw [if_neg (by simp; omega)]
        have hfold : v.cells.zipIdx.foldl (fun (cs : Array Value) (x : Value × Nat) => cs.setIfInBounds ((fl (zs.take i)).length + x.2) x.1) (fl zs).toArray = (fl (zs.set i v)).toArray := by
          rw [← Array.foldl_toList, Array.toList_zipIdx]
          rw [foldl_set _ _ 0 _ (by simpa using hfit)]
          simp only [Nat.add_zero]
          congr 1
          rw [fl_set hi, hsplit]
          have e1 : (fl (zs.take i) ++ z.cells.toList ++ fl (zs.drop (i + 1))).take (fl (zs.take i)).length = fl (zs.take i) := by rw [List.append_assoc, List.take_left]
          have e2 : (fl (zs.take i) ++ z.cells.toList ++ fl (zs.drop (i + 1))).drop ((fl (zs.take i)).length + v.cells.toList.length) = fl (zs.drop (i + 1)) := by
            rw [show (fl (zs.take i)).length + v.cells.toList.length = (fl (zs.take i) ++ z.cells.toList).length by simp [hsz], List.drop_left]
          rw [e1, e2]
        rw [hfold]
        exact ⟨ih.1, by rw [ih.2]; simp⟩

section
variable {P : Program} {N : Nat} {ops : Array Oper} {Q : Exit → Act → World → Prop} {rest : List Oper} {e : Env} {w w' : World} {d : Nat} {ty : TypeId} {pos : String} {af : Array Edge}
  {s : Base} {ok : Nat → Prop} {m : List Piece}

theorem fits_spec : ∀ {o : Nat} {l : List (TypeId × Nat × Nat)} {zs : List Value}, fits o l zs = true → l.length = zs.length ∧ ∀ (i : Nat) (z : Value), zs[i]? = some z → ∃ T, l[i]? = some (T, o + (fl (zs.take i)).length, z.cells.size)
  | o, [], [], _ => by simp
  | o, [], z :: zs, h => by simp [fits] at h
  | o, f :: l, [], h => by simp [fits] at h
  | o, (T, off, sz) :: l, z :: zs, h => by
    simp only [fits, Bool.and_eq_true] at h
    obtain ⟨⟨h1, h2⟩, h3⟩ := h
    have h1 := Nat.eq_of_beq_eq_true h1
    have h2 := Nat.eq_of_beq_eq_true h2
    subst h1 h2
    obtain ⟨h4, h5⟩ := fits_spec h3
    refine ⟨by simp [h4], fun i u hi => ?_⟩
    cases i with
    | zero =>
      simp at hi
      subst hi
      exact ⟨T, by simp⟩
    | succ i =>
      obtain ⟨T', hT⟩ := h5 i u (by simpa using hi)
      exact ⟨T', by simpa [Nat.add_assoc] using hT⟩

theorem run_mapM_list {α β : Type} {f : α → Sem β} {g : α → β} : ∀ (l : List α), (∀ x ∈ l, (f x).run P w = .ok (g x) w) → (l.mapM f).run P w = .ok (l.map g) w
  | [], _ => by simp
  | x :: l, h => by
    have h1 := h x (by simp)
    have h2 := run_mapM_list l (fun y hy => h y (by simp [hy]))
    simp [List.mapM_cons, h1, h2]
theorem run_mapM {α β : Type} {f : α → Sem β} {g : α → β} (l : Array α) (h : ∀ x ∈ l, (f x).run P w = .ok (g x) w) : (l.mapM f).run P w = .ok (l.map g) w := by
  have := run_mapM_list (P := P) (w := w) (f := f) (g := g) l.toList (fun x hx => h x (by simpa using hx))
  rw [Array.mapM_eq_mapM_toList]
  simp [this]
  apply Array.ext'
  simp

theorem run_zero {T : TypeId} {vs : List Value} (t : TyZ P T vs) : ∃ z, (zeroValue T).run P w = .ok z w ∧ z.cells = (fl vs).toArray := by
  have ht := t.out
  cases hq : P.info? T with
  | none => simp [hq] at ht
  | some i =>
    cases hz : i.zero with
    | none => simp [hq, hz] at ht
    | some z =>
      simp [hq, hz] at ht
      exact ⟨z, by simp [zeroValue, typeInfo, hq, hz], by rw [← ht]⟩

/-- a struct's literal -/
theorem wl_build {S : TypeId} {l : List (TypeId × Nat × Nat)} [t : TyS P S l] {zs : List Value} [tz : TyZ P S zs] {parts : List (Nat × Operand)} {vals rs : List Value} (hx : evs e (parts.map (·.2)) = some vals) (hf : fits 0 l zs = true)
    (hr : setP zs (parts.map (·.1)) vals = some rs) (hd : Nat.blt d N = true) (h : WL P N ops Q rest ((d, st rs) :: e) w) : WL P N ops Q (⟨some d, .build S parts.toArray, ty, pos, af, none⟩ :: rest) e w := by
  obtain ⟨fs, hu, hlen, hfs⟩ := structOf_spec t.out
  obtain ⟨z, hz, hzc⟩ := run_zero (P := P) (w := w) tz
  obtain ⟨hl2, hp2⟩ := fits_spec hf
  have hplaces : (fs.mapM fun (f : Field) => do pure (f.offset, ← Go.sizeOf f.type)).run P w = .ok (fs.map fun (f : Field) => (f.offset, ((P.info? f.type).map (·.size)).getD 0)) w := by
    refine run_mapM fs fun f hf => ?_
    obtain ⟨i, hi, hie⟩ := Array.mem_iff_getElem.1 hf
    have hil : i < l.length := by omega
    obtain ⟨f', hf1, hf2, hf3, hf4⟩ := hfs i l[i].1 l[i].2.1 l[i].2.2 (by simp [hil])
    rw [Array.getElem?_eq_getElem hi, hie] at hf1
    injection hf1 with hf1
    subst hf1
    rw [← hf2] at hf4
    simp [run_sizeOf hf4, hf4]
  refine wl_val (fun A hA => ?_) hd h
  have hmap : (parts.toArray.map fun (p : Nat × Operand) => (p.1, A.eval p.2)).toList = (parts.map (·.1)).zip vals := by
    rw [← hA.evals hx]
    simp [List.zip_map', List.map_map]
  have hfill := (fill_setP (place := fun i => (fs.map fun (f : Field) => (f.offset, ((P.info? f.type).map (·.size)).getD 0))[i]?) (by
    intro i u hi
    obtain ⟨T, hT⟩ := hp2 i u hi
    obtain ⟨f', hf1, hf2, hf3, hf4⟩ := hfs i _ _ _ hT
    rw [Array.getElem?_map, hf1]
    simp [hf2, hf3, hf4]) hr).1
  have hmap' : (Array.map (fun (x : Nat × Operand) => (x.fst, A.eval x.snd)) parts.toArray).toList = (parts.map (·.1)).zip vals := hmap
  simp only [execOp, Instr.build, Sem.run_bind, hz, Result.andThen_ok, run_underlying hu, hplaces, hzc]
  rw [hmap', hfill]
  rfl
end
end Tw

/-! ### The forms that the walk's words use -/
namespace Tw
open Go Go.RowKit
section
variable {P : Program} {N : Nat} {ops : Array Oper} {Q : Exit → Act → World → Prop} {rest : List Oper} {e : Env} {w w' : World} {d : Nat} {ty : TypeId} {pos : String} {af : Array Edge}
  {s : Base} {ok : Nat → Prop} {m : List Piece}
theorem wl_storeS {T : TypeId} {a : Bool} {k : Nat} [t : Ty P T a k] {x y : Operand} {g o : Nat} {T0 : TypeId} {vs vs' xs : List Value} {m' : List Piece} (hS : St s ok m w) (hx : ev e x = some (.pointer (some ⟨g, o, none⟩)))
    (hy : ev e y = some (st xs)) (hu : Upd m (.var g T0 vs) (.var g T0 vs') m') (hp : putC k xs vs o = some vs') (hg : (fl xs).all (·.oneCell') = true) (hk : Nat.beq (fl xs).length k = true)
    (h : ∀ w', St s ok m' w' → Stp ok w ok w' → WL P N ops Q rest e w') : WL P N ops Q (⟨none, .store T x y, ty, pos, af, none⟩ :: rest) e w :=
  wl_store hS hx hy (by simp) (good_all hg) (by simpa using Nat.eq_of_beq_eq_true hk) hu hp h
theorem wl_storeV {T : TypeId} {a : Bool} {k : Nat} [t : Ty P T a k] {x y : Operand} {g o : Nat} {T0 : TypeId} {vs vs' : List Value} {u : Value} {m' : List Piece} (hS : St s ok m w) (hx : ev e x = some (.pointer (some ⟨g, o, none⟩)))
    (hy : ev e y = some u) (hu : Upd m (.var g T0 vs) (.var g T0 vs') m') (hp : putC k [u] vs o = some vs') (hg : (fl [u]).all (·.oneCell') = true) (hk : Nat.beq u.cells.size k = true)
    (h : ∀ w', St s ok m' w' → Stp ok w ok w' → WL P N ops Q rest e w') : WL P N ops Q (⟨none, .store T x y, ty, pos, af, none⟩ :: rest) e w :=
  wl_store hS hx hy (by simp) (good_all hg) (Nat.eq_of_beq_eq_true hk) hu hp h
theorem wl_boxS {T : TypeId} {x : Operand} {xs : List Value} (hS : St s ok m w) (hx : ev e x = some (st xs)) (hg : (fl xs).all (·.oneCell') = true) (hd : Nat.blt d N = true)
    (h : ∀ g ok' w', St s ok' (.var g T xs :: m) w' → Ex ok w ok' w' → w.heap.size ≤ g → WL P N ops Q rest ((d, .pointer (some ⟨g, 0, none⟩)) :: e) w') : WL P N ops Q (⟨some d, .box T x, ty, pos, af, none⟩ :: rest) e w :=
  wl_box hS hx (by simp) (good_all hg) hd h
theorem wl_boxV {T : TypeId} {x : Operand} {u : Value} (hS : St s ok m w) (hx : ev e x = some u) (hg : (fl [u]).all (·.oneCell') = true) (hd : Nat.blt d N = true)
    (h : ∀ g ok' w', St s ok' (.var g T [u] :: m) w' → Ex ok w ok' w' → w.heap.size ≤ g → WL P N ops Q rest ((d, .pointer (some ⟨g, 0, none⟩)) :: e) w') : WL P N ops Q (⟨some d, .box T x, ty, pos, af, none⟩ :: rest) e w :=
  wl_box hS hx (by simp) (good_all hg) hd h
/-- a call that leaves all that was as it was -/
theorem wl_callE {f : FuncId} [hf : FnB P f] {xs : List Operand} {ts : Array TypeId} {vs : List Value} {R : Value → World → Prop} (hS : St s ok m w) (hx : evs e xs = some vs)
    (hc : Ret P f vs w fun v w' => R v w' ∧ Ext w w') (hd : Nat.blt d N = true)
    (h : ∀ v w', R v w' → St s ok m w' → Ex ok w ok w' → WL P N ops Q rest ((d, v) :: e) w') : WL P N ops Q (⟨some d, .call ⟨.value (.func f), xs.toArray, ts⟩, ty, pos, af, none⟩ :: rest) e w :=
  wl_call hx hc hd fun v w' ⟨hR, hE⟩ => h v w' hR (hS.ext hE) (Ex.of_ext hE ok)
theorem wl_convI' {S D : TypeId} {a : Bool} {kz : Nat} [Ty P S a kz] {k k' : IntKind} [t : TyI P D k'] {x : Operand} {n : Int} (hx : ev e x = some (.int k n)) (hd : Nat.blt d N = true)
    (h : WL P N ops Q rest ((d, .int k' (k'.wrap n)) :: e) w) : WL P N ops Q (⟨some d, .convert S D x, ty, pos, af, none⟩ :: rest) e w := by
  rename_i tt
  have := tt.out
  cases hu : P.underlying S with
  | none => simp [hu] at this
  | some dS => exact wl_convI hu t.out hx hd h
theorem wl_lenS' {T : TypeId} [t : TyT P T] {x : Operand} {a : Bs} (hx : ev e x = some (sv a)) (hd : Nat.blt d N = true)
    (h : WL P N ops Q rest ((d, .int .i64 a.length) :: e) w) : WL P N ops Q (⟨some d, .call ⟨.builtin .len, #[x], #[T]⟩, ty, pos, af, none⟩ :: rest) e w := wl_lenS t.out hx hd h
theorem same_sizes {zs : List Value} {k : Nat} (h : zs.all (fun z => Nat.beq z.cells.size k) = true) : ∀ z ∈ zs, z.cells.size = k := fun z hz => Nat.eq_of_beq_eq_true (List.all_eq_true.1 h z hz)
/-- an array's literal -/
theorem wl_buildA {A E : TypeId} {n k : Nat} [t : TyA P A n E k] {zs : List Value} [tz : TyZ P A zs] {parts : List (Nat × Operand)} {vals rs : List Value} (hx : evs e (parts.map (·.2)) = some vals) 
    (hr : (bif zs.all (fun z => Nat.beq z.cells.size k) then setP zs (parts.map (·.1)) vals else none) = some rs) (hd : Nat.blt d N = true) (h : WL P N ops Q rest ((d, st rs) :: e) w) : WL P N ops Q (⟨some d, .build A parts.toArray, ty, pos, af, none⟩ :: rest) e w := by
  obtain ⟨z, hz, hzc⟩ := run_zero (P := P) (w := w) tz
  cases hf : zs.all (fun z => Nat.beq z.cells.size k) with
  | false => simp [hf] at hr
  | true =>
  simp only [hf, cond_true] at hr
  have hk := same_sizes hf
  refine wl_val (fun B hB => ?_) hd h
  have hmap : (parts.toArray.map fun (p : Nat × Operand) => (p.1, B.eval p.2)).toList = (parts.map (·.1)).zip vals := by
    rw [← hB.evals hx]
    simp [List.zip_map', List.map_map]
  have hfill := (fill_setP (place := fun i => some (i * k, k)) (by
    intro i u hi
    obtain ⟨hil, hie⟩ := List.getElem?_eq_some_iff.1 hi
    rw [fl_length (k := k) (fun x hx => hk x (List.mem_of_mem_take hx)), hk u (List.mem_of_getElem? hi)]
    simp [Nat.min_eq_left (Nat.le_of_lt hil)]) hr).1
  have hmap' : (Array.map (fun (x : Nat × Operand) => (x.fst, B.eval x.snd)) parts.toArray).toList = (parts.map (·.1)).zip vals := hmap
  simp only [execOp, Instr.build, Sem.run_bind, hz, Result.andThen_ok, run_underlying t.out, run_sizeOf t.sz, hzc]
  rw [hmap', hfill]
  rfl
/-- a shift to the right by a constant -/
theorem wl_shr {T yT : TypeId} {k yk : IntKind} {x y : Operand} {a b : Int} (n : Nat) (p : Int) (hx : ev e x = some (.int k a)) (hy : ev e y = some (.int yk b)) (hb : b = (n : Int)) (hp : (2 : Int) ^ (min n k.bits) = p) (hd : Nat.blt d N = true)
    (h : WL P N ops Q rest ((d, .int k (a / p)) :: e) w) : WL P N ops Q (⟨some d, .binOp .shr T x y yT, ty, pos, af, none⟩ :: rest) e w :=
  wl_shift hx hy (fun w => by
    subst hb
    have h0 : ¬ ((n : Int) < 0) := by omega
    have h1 : (0 : Int) ≤ p := by rw [← hp]; exact Int.pow_nonneg (by decide)
    have e1 : Int.fdiv a (2 ^ min n k.bits) = a / p := by rw [hp]; exact Int.fdiv_eq_ediv_of_nonneg a h1
    simp only [Op.shift, h0, if_false, Int.toNat_natCast, e1]
    rfl) (.inr rfl) hd h
/-- a function that is only given data starts so -/
theorem St.start (w : World) (ok : Nat → Prop) (hf : ∀ b, w.heap.size ≤ b → ok b) : St ⟨w, ok, fun _ => False⟩ ok [] w :=
  ⟨rfl, rfl, rfl, Nat.le_refl _, fun _ _ _ => rfl, fun _ h => h, hf, by simp, by simp, by simp⟩
theorem St.out {w0 : World} {ok0 : Nat → Prop} (h : St ⟨w0, ok0, fun _ => False⟩ ok m w) : Ext w0 w := ⟨h.os, h.tape, h.output, h.size, fun b hb => h.old b hb (fun h => h)⟩
end
end Tw

/-! ### Slices and bytes -/
namespace Tw
open Go Go.RowKit
theorem Sl.form {ok : Nat → Prop} {w : World} {E : TypeId} {k : Nat} {v : Value} {α : Type} {f : α → Value} {l : List α} (h : Sl ok w E k v (l.map f)) :
    ∃ A c, v = .slice A l.length c ∧ Sl ok w E k (.slice A l.length c) (l.map f) ∧ l.length ≤ c ∧ c ≤ maxLen := by
  obtain ⟨h1, h2, A, c, hv, hc, hm, hr⟩ := h
  rw [List.length_map] at hv hc
  subst hv
  exact ⟨A, c, rfl, ⟨h1, h2, A, c, by rw [List.length_map], by rw [List.length_map]; exact hc, hm, hr⟩, hc, hm⟩
theorem Sl.cap {ok : Nat → Prop} {w : World} {E : TypeId} {k n c : Nat} {A : Option Addr} {vs : List Value} (h : Sl ok w E k (.slice A n c) vs) : n = vs.length ∧ n ≤ c ∧ c ≤ maxLen := by
  obtain ⟨_, _, A', c', hv, hc, hm, _⟩ := h
  injection hv with h1 h2 h3
  subst h2 h3
  exact ⟨rfl, hc, hm⟩
/-- a piece of a slice -/
theorem Sl.piece {ok : Nat → Prop} {w : World} {E : TypeId} {k n c : Nat} {A : Option Addr} {vs : List Value} (h : Sl ok w E k (.slice A n c) vs) {lo hi : Nat} (h1 : lo ≤ hi) (h2 : hi ≤ n) (mx : Nat) (h3 : hi ≤ mx) (h4 : mx ≤ c) :
    Sl ok w E k (.slice (if mx = lo then A else A.map (·.add (lo * k))) (hi - lo) (mx - lo)) ((vs.take hi).drop lo) := by
  obtain ⟨hn, hc, hm⟩ := h.cap
  obtain ⟨e1, e2, A', c', hv, _, _, hr⟩ := h
  injection hv with a1 a2 a3
  subst a1 a3
  have hlen : ((vs.take hi).drop lo).length = hi - lo := by simp; omega
  refine ⟨fun x hx => e1 x (List.mem_of_mem_take (List.mem_of_mem_drop hx)), e2.of_sub fun x hx => List.mem_of_mem_take (List.mem_of_mem_drop hx), _, mx - lo, by rw [hlen], by omega, by omega, fun hp => ?_⟩
  obtain ⟨b, o, hA, ho, hb, hg⟩ := hr (by omega)
  subst hA
  refine ⟨b, o + lo * k, ?_, ho, hb, ?_⟩
  · rw [if_neg (by omega)]
    simp [add_mid]
  · have := hg.sub (lo * k) ((hi - lo) * k)
    rwa [show (List.drop (lo * k) (fl vs)).take ((hi - lo) * k) = fl ((vs.take hi).drop lo) by
      rw [fl_drop e1, fl_take (fun x hx => e1 x (List.mem_of_mem_drop hx)), List.drop_take]] at this

def byteV : Value → Option UInt8
  | .int .u8 n => some (UInt8.ofNat n.toNat)
  | _ => none
/-- the bytes that some cells are -/
def bytesL : List Value → Option Bs
  | [] => some []
  | v :: vs => (match byteV v, bytesL vs with | some b, some l => some (b :: l) | _, _ => none)
theorem bytesL_spec : ∀ {cs : List Value} {l : Bs}, bytesL cs = some l → ∃ ns : List Int, cs = ns.map (Value.int .u8) ∧ l = ns.map fun n => UInt8.ofNat n.toNat
  | [], l, h => ⟨[], rfl, by simpa [bytesL] using h.symm⟩
  | v :: vs, l, h => by
    unfold bytesL at h
    cases hb : byteV v with
    | none => simp [hb] at h
    | some b =>
      cases hr : bytesL vs with
      | none => simp [hb, hr] at h
      | some r =>
        simp [hb, hr] at h
        subst h
        obtain ⟨ns, h1, h2⟩ := bytesL_spec hr
        unfold byteV at hb
        split at hb
        · rename_i n
          injection hb with hb
          exact ⟨n :: ns, by rw [h1]; rfl, by rw [h2, ← hb]; rfl⟩
        · cases hb
theorem bytesL_u8v : ∀ l : Bs, bytesL (l.map u8v) = some l
  | [] => rfl
  | b :: l => by
    have := bytesL_u8v l
    simp only [List.map_cons, bytesL, this]
    simp [u8v, byteV]

theorem fl_u8v : ∀ l : Bs, fl (l.map u8v) = l.map u8v
  | [] => rfl
  | b :: l => by
    rw [List.map_cons, fl_cons, fl_u8v l]
    rfl
section
variable {P : Program} {N : Nat} {ops : Array Oper} {Q : Exit → Act → World → Prop} {rest : List Oper} {e : Env} {w w' : World} {d : Nat} {ty : TypeId} {pos : String} {af : Array Edge}
  {s : Base} {ok : Nat → Prop} {m : List Piece}
theorem run_toString {S D E : TypeId} {kS bS : Nat} (tS : TyL P S E kS bS) (tE : TyI P E .u8) (tD : TyT P D) {b o n c : Nat} {cs : List Value} {l : Bs} (hr : Rg w b o cs) (hn : cs.length = n) (hl : bytesL cs = some l) :
    (convert S D (.slice (some ⟨b, o, none⟩) n c)).run P w = .ok (sv l) w := by
  obtain ⟨ns, rfl, rfl⟩ := bytesL_spec hl
  have h1 := run_loadCells_rg (P := P) hr
  rw [hn] at h1
  rw [run_convert_bytes_string w S D E _ n c tS.out tE.out tD.out, run_bytesToString w _ n c ns h1, foldl_push_bytes]
  simp [ByteArray.empty, ByteArray.emptyWithCapacity]
  rfl
/-- an array's bytes as a text: the array a variable of one's own -/
theorem wl_strA {S D E : TypeId} {kS bS : Nat} [tS : TyL P S E kS bS] [tE : TyI P E .u8] [tD : TyT P D] {x : Operand} {g n c : Nat} {T0 : TypeId} {vs : List Value} {l : Bs} (hS : St s ok m w) (hx : ev e x = some (.slice (some ⟨g, 0, none⟩) n c)) (hm : Has m (.var g T0 vs))
    (hl : bytesL (fl vs) = some l) (hn : l.length = n) (hd : Nat.blt d N = true) (h : WL P N ops Q rest ((d, sv l) :: e) w) : WL P N ops Q (⟨some d, .convert S D x, ty, pos, af, none⟩ :: rest) e w := by
  obtain ⟨hb, _⟩ := hS.at_ _ hm.mem
  have hlen : (fl vs).length = n := by
    obtain ⟨ns, h1, h2⟩ := bytesL_spec hl
    rw [h1, ← hn, h2]
    simp
  exact wl_val (fun A hA => by simp [execOp, hA.eval hx, run_toString tS tE tD (Rg.of_block hb) hlen hl]) hd h
/-- .. data's -/
theorem wl_strD {S D E : TypeId} {kS bS : Nat} [tS : TyL P S E kS bS] [tE : TyI P E .u8] [tD : TyT P D] {x : Operand} {A : Option Addr} {n c : Nat} {l : Bs} (hx : ev e x = some (.slice A n c)) (hs : Sl ok w E 1 (.slice A n c) (l.map u8v))
    (hd : Nat.blt d N = true) (h : WL P N ops Q rest ((d, sv l) :: e) w) : WL P N ops Q (⟨some d, .convert S D x, ty, pos, af, none⟩ :: rest) e w := by
  obtain ⟨e1, _, A', c', hv, _, _, hr⟩ := hs
  injection hv with a1 a2 a3
  subst a1 a2 a3
  have hfl : fl (l.map u8v) = l.map u8v := fl_u8v l
  refine wl_val (fun B hB => ?_) hd h
  rcases Nat.eq_zero_or_pos (l.map u8v).length with h0 | h0
  · have : l = [] := by simpa using h0
    subst this
    cases hA : A with
    | none =>
      have := run_convert_bytes_nil (P := P) w S E tS.out tE.out 0 c D tD.out
      simp only [List.map_nil, List.length_nil] at hx ⊢
      simp [execOp, hB.eval hx, hA, this]
      rfl
    | some a =>
      have h1 : (loadCells a 0).run P w = .ok ([].map (Value.int .u8)).toArray w := by simpa using run_loadCells_list (P := P) w a [] (by simp)
      have h2 := run_bytesToString (P := P) w a 0 c [] h1
      have h3 := run_convert_bytes_string (P := P) w S D E (some a) 0 c tS.out tE.out tD.out
      simp only [List.map_nil, List.length_nil] at hx ⊢
      simp [execOp, hB.eval hx, hA, h3, h2]
      rfl
  · obtain ⟨b, o, hA, _, _, hg⟩ := hr h0
    subst hA
    rw [hfl] at hg
    have := run_toString (P := P) (w := w) tS tE tD (n := (l.map u8v).length) (c := c) hg rfl (bytesL_u8v l)
    simp [execOp, hB.eval hx] at this ⊢
    simp [this]

theorem wl_lenL {T E : TypeId} {k b : Nat} [t : TyL P T E k b] {x : Operand} {A : Option Addr} {n c : Nat} (hx : ev e x = some (.slice A n c)) (hd : Nat.blt d N = true)
    (h : WL P N ops Q rest ((d, .int .i64 n) :: e) w) : WL P N ops Q (⟨some d, .call ⟨.builtin .len, #[x], #[T]⟩, ty, pos, af, none⟩ :: rest) e w :=
  wl_val (fun B hB => by simp [execOp, resolve, invoke, builtin, hB.eval hx, Builtin.len_, run_underlying t.out, goInt]) hd h
/-- an element's place: data -/
theorem wl_idxD {S E : TypeId} {k bS : Nat} [t : TyL P S E k bS] {x ix : Operand} {kd : IntKind} {i : Int} {A : Option Addr} {n c : Nat} {α : Type} {f : α → Value} {l : List α} (j : Nat) (hx : ev e x = some (.slice A n c)) (hi : ev e ix = some (.int kd i)) (hs : Sl ok w E k (.slice A n c) (l.map f))
    (hj : i = (j : Int)) (hlt : j < l.length) (hd : Nat.blt d N = true)
    (h : ∀ b o, ok b → Rg w b o (f l[j]).cells.toList → WL P N ops Q rest ((d, .pointer (some ⟨b, o, none⟩)) :: e) w) : WL P N ops Q (⟨some d, .indexAddr S x ix, ty, pos, af, none⟩ :: rest) e w := by
  obtain ⟨hn, _, _⟩ := hs.cap
  obtain ⟨b, o, hA, ho, hr⟩ := hs.elem (i := j) (by simpa using hlt)
  subst hA hj hn
  rw [List.getElem_map] at hr
  have hin : (0 : Int) ≤ (j : Int) ∧ (j : Int) < ((l.map f).length : Nat) := by simp; omega
  exact wl_val (fun B hB => by
    simp only [execOp, hB.eval hx, hB.eval hi, Instr.indexAt, asIntOf, Sem.run_bind, Sem.run_pure, Result.andThen_ok, run_underlying t.out, hin, and_self, if_true, run_sizeOf (show (P.info? E).map (·.size) = some k by
      have := t.sz
      cases hq : P.info? E with
      | none => simp [hq] at this
      | some i => simp [hq] at this ⊢; exact this.1), Int.toNat_natCast, add_mid]) hd (h b _ ho hr)
theorem TyL.size {S E : TypeId} {k bS : Nat} (t : TyL P S E k bS) : (P.info? E).map (·.size) = some k := by
  have := t.sz
  cases hq : P.info? E with
  | none => simp [hq] at this
  | some i => simp [hq] at this ⊢; exact this.1
/-- a slice of data -/
def bnd (e : Env) (n : Nat) : Option Operand → Option Int
  | none => some n
  | some x => (match ev e x with | some (.int _ i) => some i | _ => none)
theorem bnd_spec {n : Nat} {x : Option Operand} {i : Nat} {B : Act} (hB : Sat N e B) (h : bnd e n x = some (i : Int)) : (x.map B.eval = none ∧ i = n) ∨ ∃ kd, x.map B.eval = some (.int kd (i : Int)) := by
  cases x with
  | none => simp [bnd] at h; exact .inl ⟨rfl, by omega⟩
  | some y =>
    simp only [bnd] at h
    split at h
    · rename_i kd j hy
      injection h with h
      subst h
      exact .inr ⟨kd, by simp [hB.eval hy]⟩
    · cases h
theorem run_bounds {sl : Bool} {n c lo hi : Nat} {vl vh : Option Value} (hl : (vl = none ∧ lo = 0) ∨ ∃ kd, vl = some (.int kd (lo : Int))) (hh : (vh = none ∧ hi = n) ∨ ∃ kd, vh = some (.int kd (hi : Int))) (h1 : lo ≤ hi) (h2 : hi ≤ c) :
    (Instr.sliceBounds sl n c vl vh none).run P w = .ok (lo, hi, c) w := by
  rcases hl with ⟨rfl, rfl⟩ | ⟨kd, rfl⟩ <;> rcases hh with ⟨rfl, rfl⟩ | ⟨kd', rfl⟩ <;> simp [Instr.sliceBounds, Instr.sliceBound, asIntOf, h1, h2]
theorem wl_sliceD {S E : TypeId} {k bS : Nat} [t : TyL P S E k bS] {x : Operand} {xl xh : Option Operand} {il ih : Int} {A : Option Addr} {n c : Nat} {vs : List Value} (lo hi : Nat) (hx : ev e x = some (.slice A n c))
    (hl : bnd e 0 xl = some il) (hh : bnd e n xh = some ih) (hs : Sl ok w E k (.slice A n c) vs) (h1 : il = (lo : Int)) (h2 : ih = (hi : Int)) (h3 : lo ≤ hi) (h4 : hi ≤ n) (hd : Nat.blt d N = true)
    (h : ∀ A' c', Sl ok w E k (.slice A' (hi - lo) c') ((vs.take hi).drop lo) → WL P N ops Q rest ((d, .slice A' (hi - lo) c') :: e) w) : WL P N ops Q (⟨some d, .slice S x xl xh none, ty, pos, af, none⟩ :: rest) e w := by
  obtain ⟨hn, hc, hm⟩ := hs.cap
  have hpc := hs.piece h3 h4 c (by omega) (Nat.le_refl _)
  subst h1 h2
  refine wl_val (v := .slice (if c = lo then A else A.map (·.add (lo * k))) (hi - lo) (c - lo)) (fun B hB => ?_) hd (h _ _ hpc)
  have hb := run_bounds (P := P) (w := w) (sl := true) (bnd_spec hB hl) (bnd_spec hB hh) h3 (show hi ≤ c by omega)
  simp only [execOp, hB.eval hx, Instr.sliceAt, Instr.slice, Sem.run_bind, run_underlying t.out, Result.andThen_ok, Option.map_none, hb, run_sizeOf t.size, Sem.run_pure]
/-- a slice of a text -/
theorem wl_sliceS {S : TypeId} [t : TyT P S] {x : Operand} {xl xh : Option Operand} {il ih : Int} {a : Bs} (lo hi : Nat) (hx : ev e x = some (sv a))
    (hl : bnd e 0 xl = some il) (hh : bnd e a.length xh = some ih) (h1 : il = (lo : Int)) (h2 : ih = (hi : Int)) (h3 : lo ≤ hi) (h4 : hi ≤ a.length) (hd : Nat.blt d N = true)
    (h : WL P N ops Q rest ((d, sv ((a.take hi).drop lo)) :: e) w) : WL P N ops Q (⟨some d, .slice S x xl xh none, ty, pos, af, none⟩ :: rest) e w := by
  subst h1 h2
  refine wl_val (fun B hB => ?_) hd h
  have hb := run_bounds (P := P) (w := w) (sl := false) (bnd_spec hB hl) (bnd_spec hB hh) h3 h4
  have he : (⟨a.toArray⟩ : ByteArray).extract lo hi = ⟨((a.take hi).drop lo).toArray⟩ := by
    apply ByteArray.ext
    rw [ByteArray.data_extract]
    apply Array.ext'
    simp [List.drop_take]
  simp only [execOp, hB.eval hx, Instr.sliceAt, Instr.slice, Sem.run_bind, run_underlying t.out, Result.andThen_ok, Option.map_none, size_sv, hb, Sem.run_pure, Option.isSome_none, Bool.false_eq_true, if_false, he]
/-- the whole of an array variable as a slice -/
theorem wl_sliceA {T E : TypeId} {n k : Nat} [t : TyA P T n E k] {x : Operand} {g o : Nat} (hx : ev e x = some (.pointer (some ⟨g, o, none⟩))) (hd : Nat.blt d N = true)
    (h : WL P N ops Q rest ((d, .slice (some ⟨g, o, none⟩) n n) :: e) w) : WL P N ops Q (⟨some d, .slice T x none none none, ty, pos, af, none⟩ :: rest) e w :=
  wl_val (fun B hB => by simp [execOp, hB.eval hx, Instr.sliceAt, Instr.sureAddr, run_underlying t.out, run_sizeOf t.sz, Instr.sliceBounds, Addr.add]) hd h
end
end Tw

/-! ### Rows of one's own: append; literals of slices -/
namespace Tw
open Go Go.RowKit
section
variable {s : Base} {ok : Nat → Prop} {m : List Piece} {w : World}
/-- a nil slice is an own row of none -/
theorem St.nilRow (h : St s ok m w) (E : TypeId) (k : Nat) : St s ok (.row (.slice none 0 0) E k [] :: m) w :=
  ⟨h.os, h.tape, h.output, h.size, h.old, h.sub, h.fresh, fun p hp => by
    rcases List.mem_cons.1 hp with rfl | hp
    · exact ⟨World.ownsRow_nil w 0 E k, Good.nil, by simp⟩
    · exact h.at_ p hp, fun p hp g hg => by
    rcases List.mem_cons.1 hp with rfl | hp
    · simp [Piece.blk, Value.ownBlock] at hg
    · exact h.own p hp g hg, List.pairwise_cons.2 ⟨fun q _ g hg => by simp [Piece.blk, Value.ownBlock] at hg, h.dis⟩⟩
/-- behind an append -/
theorem St.appended {v v' : Value} {E : TypeId} {k : Nat} {vs us : List Value} {pre post : List Piece} {w' : World} (h : St s ok (pre ++ .row v E k vs :: post) w)
    (ho : w'.ownsRow 0 E k v' (vs.length + us.length) (fl vs ++ fl us)) (hg : w.grownBy w' v.ownBlock) (hw : v'.ownBlock = v.ownBlock ∨ v'.ownBlock = some w.heap.size) (hu : Good us) (hk : ∀ x ∈ us, x.cells.size = k) :
    ∃ ok', St s ok' (pre ++ .row v' E k (vs ++ us) :: post) w' ∧ Stp ok w ok' w' := by
  have hpm : Piece.row v E k vs ∈ pre ++ .row v E k vs :: post := by simp
  obtain ⟨hat, hgood, hkv⟩ := h.at_ _ hpm
  have hdis := h.dis
  rw [List.pairwise_append, List.pairwise_cons] at hdis
  obtain ⟨d1, ⟨d2, d3⟩, d4⟩ := hdis
  have hne : ∀ q, q ∈ pre ∨ q ∈ post → ∀ g', q.blk = some g' → v.ownBlock ≠ some g' := by
    rintro q (hq | hq) g' hg' e
    · exact d4 q hq (.row v E k vs) (by simp) g' hg' e
    · exact d2 q hq g' e hg'
  have hne' : ∀ q, q ∈ pre ∨ q ∈ post → ∀ g', q.blk = some g' → v'.ownBlock ≠ some g' := by
    intro q hq g' hg'
    rcases hw with hw | hw <;> rw [hw]
    · exact hne q hq g' hg'
    · intro e
      injection e with e
      have := (h.own q (by rcases hq with hq | hq <;> simp [hq]) g' hg').1
      omega
  have hlt : ∀ g, v'.ownBlock = some g → g < w'.heap.size := fun g hg' => (ho.lt g hg').2
  have hkeep : ∀ b, b < w.heap.size → ok b → w'.heap[b]? = w.heap[b]? := fun b hb hob => hg.block b hb fun e => (h.own _ hpm b e.symm).2.1 hob
  refine ⟨fun b => ok b ∧ v'.ownBlock ≠ some b, ⟨hg.os.trans h.os, hg.tape.trans h.tape, hg.output.trans h.output, Nat.le_trans h.size hg.size, ?_, fun b hb => h.sub b hb.1, ?_, ?_, ?_, ?_⟩, ⟨hg.size, ?_⟩⟩
  · intro b hb hb2
    rw [hg.block b (Nat.lt_of_lt_of_le hb h.size) (fun e => ?_)]
    · exact h.old b hb hb2
    · rcases (h.own _ hpm b e.symm).2.2 with h1 | h1
      · omega
      · exact hb2 h1
  · intro b hb
    exact ⟨h.fresh b (Nat.le_trans hg.size hb), fun e => by have := hlt b e; omega⟩
  · intro q hq
    rw [List.mem_append, List.mem_cons] at hq
    rcases hq with hq | rfl | hq
    · exact Piece.at_of_block (h.at_ q (by simp [hq])) fun g' hg' => hg.block g' (h.own q (by simp [hq]) g' hg').1 (fun e => hne q (.inl hq) g' hg' e.symm)
    · refine ⟨by rw [List.length_append, fl_append]; exact ho, hgood.append hu, fun x hx => ?_⟩
      rcases List.mem_append.1 hx with hx | hx
      · exact hkv x hx
      · exact hk x hx
    · exact Piece.at_of_block (h.at_ q (by simp [hq])) fun g' hg' => hg.block g' (h.own q (by simp [hq]) g' hg').1 (fun e => hne q (.inr hq) g' hg' e.symm)
  · intro q hq g' hg'
    rw [List.mem_append, List.mem_cons] at hq
    have other : (q ∈ pre ∨ q ∈ post) → g' < w'.heap.size ∧ ¬ (ok g' ∧ v'.ownBlock ≠ some g') ∧ (s.w.heap.size ≤ g' ∨ s.md g') := fun hq => by
      obtain ⟨a, b, c⟩ := h.own q (by rcases hq with hq | hq <;> simp [hq]) g' hg'
      exact ⟨Nat.lt_of_lt_of_le a hg.size, fun hh => b hh.1, c⟩
    rcases hq with hq | rfl | hq
    · exact other (.inl hq)
    · refine ⟨hlt g' hg', fun hh => hh.2 hg', ?_⟩
      rcases hw with hw | hw
      · have hgg : v'.ownBlock = some g' := hg'
        rw [hw] at hgg
        exact (h.own _ hpm g' hgg).2.2
      · have hgg : v'.ownBlock = some g' := hg'
        rw [hw] at hgg
        injection hgg with hgg
        left
        have := h.size
        omega
    · exact other (.inr hq)
  · rw [List.pairwise_append, List.pairwise_cons]
    refine ⟨d1, ⟨fun q hq g' hg' e => hne' q (.inr hq) g' e hg', d3⟩, fun q hq r hr g' hg' => ?_⟩
    rcases List.mem_cons.1 hr with rfl | hr
    · exact hne' q (.inl hq) g' hg'
    · exact d4 q hq r (by simp [hr]) g' hg'
  · intro b hb hob
    refine ⟨hkeep b hb hob, hob, ?_⟩
    rcases hw with hw | hw <;> rw [hw]
    · exact fun e => (h.own _ hpm b e).2.1 hob
    · intro e
      injection e with e
      omega
end
section
variable {P : Program} {N : Nat} {ops : Array Oper} {Q : Exit → Act → World → Prop} {rest : List Oper} {e : Env} {w w' : World} {d : Nat} {ty : TypeId} {pos : String} {af : Array Edge}
  {s : Base} {ok : Nat → Prop} {m : List Piece}
theorem set_parts {m : List Piece} {i : Nat} {p p' : Piece} (h : m[i]? = some p) : ∃ pre post, m = pre ++ p :: post ∧ m.set i p' = pre ++ p' :: post := by
  obtain ⟨hi, he⟩ := List.getElem?_eq_some_iff.1 h
  refine ⟨m.take i, m.drop (i + 1), ?_, ?_⟩
  · conv => lhs; rw [← List.take_append_drop i m]
    rw [List.drop_eq_getElem_cons hi, he]
  · rw [List.set_eq_take_append_cons_drop, if_pos hi]
theorem run_append_any {T E : TypeId} {k b : Nat} (t : TyL P T E k b) {zs : List Value} (tz : TyZ P E zs) (hzl : (fl zs).length = k) (hk0 : 0 < k) {v : Value} {vs us : List Value} {A : Option Addr} {n c : Nat} {oT : TypeId}
    (ho : w.ownsRow 0 E k v vs.length (fl vs)) (hA : A = none → n = 0) (hn : us.length = n) (hk : ∀ x ∈ us, x.cells.size = k) (hu : Good us) (hr : ∀ p, A = some p → ∀ j u, (fl us)[j]? = some u → w.cell? (p.add j) = some u)
    (hb : (vs.length + n) * b ≤ 140737488355328) (hm : vs.length + n ≤ maxLen) :
    ∃ v' w', (Builtin.append_ #[T, T] oT #[v, .slice A n c]).run P w = .ok v' w' ∧ w'.ownsRow 0 E k v' (vs.length + us.length) (fl vs ++ fl us) ∧ w.grownBy w' v.ownBlock ∧ (v'.ownBlock = v.ownBlock ∨ v'.ownBlock = some w.heap.size) := by
  have hsz := t.sz
  have htz := tz.out
  cases hq : P.info? E with
  | none => simp [hq] at hsz
  | some i =>
    simp [hq] at hsz
    cases hz : i.zero with
    | none => simp [hq, hz] at htz
    | some z =>
      simp [hq, hz] at htz
      cases A with
      | none =>
        have h0 := hA rfl
        subst h0
        have hus : us = [] := List.eq_nil_of_length_eq_zero hn
        subst hus
        refine ⟨v, w, ?_, by simpa using ho, ⟨rfl, rfl, rfl, Nat.le_refl _, fun _ _ _ => rfl⟩, .inl rfl⟩
        rcases ho.2 with ⟨rfl, h0⟩ | ⟨g, cap, cur, rfl, _, _, hnc, _⟩
        · simp [Builtin.append_, run_underlying t.out, Go.sizeOf, typeInfo, hq, Builtin.lenOf, Builtin.firstCells]
        · simp [Builtin.append_, run_underlying t.out, Go.sizeOf, typeInfo, hq, Builtin.lenOf, Builtin.firstCells, hnc, storeCells]
      | some a =>
        subst hn
        have hzk : z.cells.size = k := by rw [← hzl, ← htz, Array.length_toList]
        obtain ⟨v', w', h1, h2, h3, _, h5⟩ := run_append_own_at (P := P) w 0 T oT E i z k b t.out hq hz hsz.1 hsz.2 hzk hk0 v vs.length (fl vs) ho a us.length c (fl us) (fl_length hk) (hr a rfl) hu hm hb (Nat.zero_le _)
        exact ⟨v', w', h1, h2, h3, h5⟩
/-- append onto an own row, of data -/
theorem wl_append (i : Nat) {T E : TypeId} {k b : Nat} [t : TyL P T E k b] {zs : List Value} [tz : TyZ P E zs] {xs x : Operand} {v : Value} {vs us : List Value} {A : Option Addr} {n c : Nat} (hS : St s ok m w)
    (hs : ev e xs = some v) (hx : ev e x = some (.slice A n c)) (hm : m[i]? = some (.row v E k vs)) (hsl : Sl ok w E k (.slice A n c) us) (hk : Nat.beq (fl zs).length k = true) (hk0 : Nat.blt 0 k = true) (hd : Nat.blt d N = true)
    (hb : (vs.length + us.length) * b ≤ 140737488355328) (hl : vs.length + us.length ≤ maxLen)
    (h : ∀ v' ok' w', St s ok' (m.set i (.row v' E k (vs ++ us))) w' → Stp ok w ok' w' → WL P N ops Q rest ((d, v') :: e) w') :
    WL P N ops Q (⟨some d, .call ⟨.builtin .append, #[xs, x], #[T, T]⟩, ty, pos, af, none⟩ :: rest) e w := by
  obtain ⟨hn, hc, hmx⟩ := hsl.cap
  obtain ⟨hat, hgood, hkv⟩ := hS.at_ _ (List.mem_of_getElem? hm)
  obtain ⟨e1, e2, A', c', hv, _, _, hr⟩ := hsl
  injection hv with a1 a2 a3
  subst a1 a3
  obtain ⟨v', w', h1, h2, h3, h4⟩ := run_append_any (P := P) (w := w) (oT := ty) t tz (Nat.eq_of_beq_eq_true hk) (Nat.le_of_ble_eq_true hk0) hat (A := A) (n := n) (c := c) (us := us) (fun hA => by
      rcases Nat.eq_zero_or_pos us.length with h0 | h0
      · omega
      · obtain ⟨_, _, hA', _⟩ := hr h0
        rw [hA] at hA'
        cases hA') hn.symm e1 e2 (fun p hp j u hj => by
      have h0 : 0 < us.length := by
        rcases Nat.eq_zero_or_pos us.length with h0 | h0
        · have : us = [] := List.eq_nil_of_length_eq_zero h0
          subst this
          simp at hj
        · exact h0
      obtain ⟨b', o', hA', _, _, hg⟩ := hr h0
      rw [hp] at hA'
      injection hA' with hA'
      subst hA'
      rw [add_mid]
      exact hg.cell hj) (by rw [hn]; exact hb) (by rw [hn]; exact hl)
  obtain ⟨pre, post, rfl, hset⟩ := set_parts (p' := .row v' E k (vs ++ us)) hm
  obtain ⟨ok', hS', hE'⟩ := hS.appended h2 h3 h4 e2 e1
  rw [← hset] at hS'
  exact wl_val (fun B hB => by simp [execOp, resolve, invoke, builtin, hB.eval hs, hB.eval hx, h1]) hd (h v' ok' w' hS' hE')
theorem setL_at {z v : Value} (h : z.cells.size = v.cells.size) : ∀ (a b : List Value), setL (a ++ z :: b) a.length v = some (a ++ v :: b)
  | [], b => by
    have : Nat.beq z.cells.size v.cells.size = true := by rw [h]; exact Nat.beq_refl _
    simp [setL, this]
  | y :: a, b => by
    have := setL_at h a b
    simp [setL, this]
theorem setP_full {z : Value} : ∀ (vals done : List Value), (∀ v ∈ vals, z.cells.size = v.cells.size) → setP (done ++ List.replicate vals.length z) (List.range' done.length vals.length) vals = some (done ++ vals)
  | [], done, _ => by simp [setP]
  | v :: vals, done, h => by
    simp only [List.length_cons, List.replicate_succ, List.range'_succ, setP]
    rw [setL_at (h v (by simp)) done]
    have := setP_full vals (done ++ [v]) (fun u hu => h u (by simp [hu]))
    simp only [List.length_append, List.length_singleton, List.append_assoc, List.singleton_append] at this
    exact this
theorem fl_replicate (C : Array Value) {v : Value} (hv : v.cells = C) : ∀ n : Nat, fl (List.replicate n v) = (List.range (n * C.size)).map fun i => C[i % C.size]!
  | 0 => by simp
  | n + 1 => by
    rw [List.replicate_succ', fl_append, fl_replicate C hv n, Nat.add_mul, Nat.one_mul, List.range_add, List.map_append, List.map_map]
    congr 1
    simp only [fl_cons, fl_nil, List.append_nil, hv]
    apply List.ext_getElem
    · simp
    · intro i h1 h2
      have hi : i < C.size := by simpa using h1
      simp [Nat.mod_eq_of_lt hi, hi]
/-- a slice's literal: data -/
theorem wl_buildL {T E : TypeId} {k b : Nat} [t : TyL P T E k b] {zs : List Value} [tz : TyZ P E zs] {n : Nat} {parts : List (Nat × Operand)} {vals : List Value} (hS : St s ok m w) (hx : evs e (parts.map (·.2)) = some vals)
    (hi : parts.map (·.1) = List.range n) (hk : vals.all (fun v => Nat.beq v.cells.size k) = true) (hg : (fl vals).all (·.oneCell') = true) (hz : Nat.beq (fl zs).length k = true) (hk0 : Nat.blt 0 k = true) (hs : Nat.ble (n * k) 65536 = true) (hn0 : Nat.blt 0 n = true) (hd : Nat.blt d N = true)
    (h : ∀ g w', St s ok m w' → Ex ok w ok w' → Sl ok w' E k (.slice (some ⟨g, 0, none⟩) vals.length vals.length) vals → WL P N ops Q rest ((d, .slice (some ⟨g, 0, none⟩) vals.length vals.length) :: e) w') :
    WL P N ops Q (⟨some d, .buildSlice T n parts.toArray, ty, pos, af, none⟩ :: rest) e w := by
  obtain ⟨z, hzr, hzc⟩ := run_zero (P := P) (w := w) tz
  have hkv := same_sizes hk
  have hzk : z.cells.size = k := by rw [hzc]; simpa using Nat.eq_of_beq_eq_true hz
  have hkp : 0 < k := Nat.le_of_ble_eq_true hk0
  have hnp : 0 < n := Nat.le_of_ble_eq_true hn0
  have hnk : n * k ≤ 65536 := Nat.le_of_ble_eq_true hs
  have hlen : vals.length = n := by
    have h1 : (parts.map (·.2)).length = vals.length := by
      have : ∀ (xs : List Operand) (us : List Value), evs e xs = some us → xs.length = us.length := by
        intro xs
        induction xs with
        | nil => intro us h; simp [evs] at h; subst h; rfl
        | cons x xs ih =>
          intro us h
          unfold evs at h
          split at h
          · rename_i v1 v2 _ h2
            injection h with h
            subst h
            simp [ih _ h2]
          · cases h
      exact this _ _ hx
    have h2 : (parts.map (·.1)).length = n := by rw [hi]; simp
    simp at h1 h2
    omega
  subst hlen
  have hcells : ((Array.range (vals.length * k)).map (z.cells[· % z.cells.size]!)) = (fl (List.replicate vals.length (.agg z.cells))).toArray := by
    apply Array.ext'
    rw [fl_replicate z.cells (v := .agg z.cells) rfl, hzk]
    simp
  have hset := setP_full (z := .agg z.cells) vals [] (fun v hv => by rw [hkv v hv]; exact hzk)
  simp only [List.nil_append, List.length_nil] at hset
  have hfill := (fill_setP (place := fun i => some (i * k, k)) (by
    intro i u hiu
    obtain ⟨hil, hie⟩ := List.getElem?_eq_some_iff.1 hiu
    rw [List.getElem_replicate] at hie
    subst hie
    have hil' : i < vals.length := by simpa using hil
    rw [fl_length (k := k) (fun x hx => by
      have := List.mem_of_mem_take hx
      rw [List.mem_replicate] at this
      rw [this.2]
      exact hzk)]
    simp [Nat.min_eq_left (Nat.le_of_lt hil')]
    exact hzk.symm) hset).1
  have hE := Ext.alloc w (.cells (fl vals).toArray E)
  have hblk : (w.alloc (.cells (fl vals).toArray E)).heap[w.heap.size]? = some (.cells (fl vals).toArray E (0, 0)) := heap_alloc_new w _
  have hsl : Sl ok (w.alloc (.cells (fl vals).toArray E)) E k (.slice (some ⟨w.heap.size, 0, none⟩) vals.length vals.length) vals :=
    ⟨hkv, good_all hg, _, _, rfl, Nat.le_refl _, by
      have : vals.length ≤ vals.length * k := Nat.le_mul_of_pos_right _ hkp
      simp only [maxLen]
      omega, fun _ => ⟨_, 0, rfl, hS.fresh _ (Nat.le_refl _), rfl, Rg.of_block hblk⟩⟩
  refine wl_val (w' := w.alloc (.cells (fl vals).toArray E)) (fun B hB => ?_) hd (h _ _ (hS.ext hE) (Ex.of_ext hE ok) hsl)
  have hmap' : (Array.map (fun (x : Nat × Operand) => (x.fst, B.eval x.snd)) parts.toArray).toList = (List.range' 0 vals.length).zip vals := by
    rw [← List.range_eq_range', ← hi]
    conv => rhs; rw [← hB.evals hx]
    simp [List.zip_map', List.map_map]
  have h0 : ¬ vals.length * k > 2 ^ 24 := by omega
  have h1 : ¬ vals.length * k = 0 := by
    have := Nat.mul_pos hnp hkp
    omega
  simp only [execOp, Instr.buildSlice, Sem.run_bind, run_underlying t.out, Result.andThen_ok, run_sizeOf t.size, h0, h1, if_false, Sem.run_pure, hzr]
  rw [hmap', hcells, hfill]
  simp [newRow, newObj, Sem.run]
end
attribute [irreducible] WL WC WE Ret
end Tw

namespace Tw
open Go Go.RowKit

/-- what an operation leaves: a value that is known, or one of which something holds in the world that it leaves -/
inductive Asn where
  | eqv (x : Value)
  | is (A : Value → (Nat → Prop) → World → Prop)
def Asn.on : Asn → Value → (Nat → Prop) → World → Prop
  | .eqv x, v, _, _ => v = x
  | .is A, v, ok, w => A v ok w
/-- .. and it has been so at some time -/
def Late (s : Base) (m : List Piece) (ok0 : Nat → Prop) (w0 : World) (A : Value → (Nat → Prop) → World → Prop) (v : Value) (ok : Nat → Prop) (w : World) : Prop :=
  ∃ ok1 w1, A v ok1 w1 ∧ St s ok1 m w1 ∧ Ex ok0 w0 ok1 w1 ∧ Ex ok1 w1 ok w
theorem Late.ex {s : Base} {m : List Piece} {ok0 ok ok' : Nat → Prop} {w0 w w' : World} {A : Value → (Nat → Prop) → World → Prop} {v : Value} (h : Late s m ok0 w0 A v ok w) (e : Ex ok w ok' w') : Late s m ok0 w0 A v ok' w' := by
  obtain ⟨ok1, w1, h1, h2, h3, h4⟩ := h
  exact ⟨ok1, w1, h1, h2, h3, h4.trans e⟩

def dstAt (l : List Oper) (i : Nat) : Option Nat := (l[i]?).bind (·.dst)
def dirE (l : List Oper) (i j : Nat) : Bool := ((l[i]?).map fun o => o.after.toList.any fun e => Region.binds .any e && Nat.beq e.on j).getD false
def dir2 (l : List Oper) (i j : Nat) : Bool := dirE l i j || (List.range i).any fun k => Nat.blt j k && dirE l k j
/-- which operations of the body an operation looks at -/
def hasN : List Nat → Nat → Bool
  | [], _ => false
  | x :: xs, n => bif Nat.beq x n then true else hasN xs n
theorem hasN_spec {l : List Nat} {n : Nat} : hasN l n = l.contains n := by
  induction l with
  | nil => rfl
  | cons x xs ih =>
    unfold hasN
    rw [List.contains_cons, ih]
    by_cases h : x = n
    · subst h; simp
    · rw [beq_ff h]; simp [Ne.symm h]
def looksN (l : List Oper) (o : Oper) : List Nat :=
  (o.op.operands.toList.filterMap fun | .tmp t => some t | _ => none) ++ (match o.guard with | some (g, _) => (dstAt l g).toList | none => [])
theorem looksN_spec {l : List Oper} {o : Oper} : looksN l o = o.looksAt l.toArray := by
  unfold looksN Oper.looksAt dstAt
  congr 1
  cases o.guard with
  | none => rfl
  | some g => simp
def seesF (l : List Oper) (xs : List Nat) (i : Nat) : List Oper → Nat → Nat → List Nat
  | _, _, 0 => []
  | [], _, _ => []
  | q :: qs, j, m + 1 => bif (match q.dst with | some d => hasN xs d | none => false) && (!Nat.beq j i && dirE l i j) then j :: seesF l xs i qs (j + 1) m else seesF l xs i qs (j + 1) m
/-- which other operations of the body the operation i looks at -/
def seesI (l : List Oper) (m i : Nat) (o : Oper) : List Nat := seesF l (looksN l o) i l 0 m
theorem seesF_spec {l : List Oper} {xs : List Nat} {i : Nat} : ∀ {qs : List Oper} {j m k : Nat}, k ∈ seesF l xs i qs j m → j ≤ k ∧ k < j + m ∧ k ≠ i ∧ dirE l i k = true
  | qs, j, 0, k, h => by cases qs <;> simp [seesF] at h
  | [], j, m + 1, k, h => by simp [seesF] at h
  | q :: qs, j, m + 1, k, h => by
    unfold seesF at h
    generalize hc : ((match q.dst with | some d => hasN xs d | none => false) && (!Nat.beq j i && dirE l i j)) = c at h
    cases c with
    | false =>
      have := seesF_spec h
      exact ⟨by omega, by omega, this.2.2⟩
    | true =>
      rcases List.mem_cons.1 h with rfl | h
      · simp only [Bool.and_eq_true] at hc
        refine ⟨Nat.le_refl _, by omega, ?_, hc.2.2⟩
        rintro rfl
        simp at hc
      · have := seesF_spec h
        exact ⟨by omega, by omega, this.2.2⟩
/-- j comes behind i in every order -/
def reach (l : List Oper) : Nat → Nat → Nat → Bool
  | 0, j, i => dirE l j i
  | n + 1, j, i => dirE l j i || (List.range j).any fun k => dirE l j k && reach l n k i
/-- the frame without some slots -/
def dropE : List Nat → Env → Env
  | [], e => e
  | d :: D, e => dropE D (e.filter fun p => !Nat.beq p.1 d)
theorem lk_filter {d : Nat} : ∀ {e : Env} {t : Nat} {v : Value}, lk (e.filter fun p => !Nat.beq p.1 d) t = some v → lk e t = some v ∧ t ≠ d
  | [], t, v, h => by simp [lk] at h
  | (a, u) :: e, t, v, h => by
    by_cases had : a = d
    · subst had
      simp at h
      obtain ⟨h1, h2⟩ := lk_filter (by simpa using h)
      refine ⟨?_, h2⟩
      unfold lk
      simp [beq_ff (Ne.symm h2), h1]
    · rw [List.filter_cons_of_pos (by simp [beq_ff had])] at h
      unfold lk at h ⊢
      by_cases hat : a = t
      · subst hat
        simp at h ⊢
        exact ⟨h, had⟩
      · simp [beq_ff hat] at h ⊢
        exact lk_filter (by simpa using h)
theorem lk_dropE : ∀ {D : List Nat} {e : Env} {t : Nat} {v : Value}, lk (dropE D e) t = some v → lk e t = some v ∧ t ∉ D
  | [], e, t, v, h => ⟨h, by simp⟩
  | d :: D, e, t, v, h => by
    obtain ⟨h1, h2⟩ := lk_dropE (D := D) h
    obtain ⟨h3, h4⟩ := lk_filter h1
    exact ⟨h3, by simp [h4, h2]⟩
/-- the slots that operations of the body write anew, out of the indices ws: those that may have been written ahead of the operation i -/
def badW (l : List Oper) (ds ws : List Nat) (i : Nat) : List Nat := match ws with
  | [] => []
  | w :: ws => bif Nat.beq w i || reach l 2 w i then badW l ds ws i else ds.getD w 0 :: badW l ds ws i
theorem badW_spec {l : List Oper} {ds : List Nat} {i j : Nat} : ∀ {ws : List Nat}, j ∈ ws → ds.getD j 0 ∈ badW l ds ws i ∨ j = i ∨ reach l 2 j i = true
  | [], h => by simp at h
  | w :: ws, h => by
    unfold badW
    generalize hc : (Nat.beq w i || reach l 2 w i) = c
    rcases List.mem_cons.1 h with rfl | h
    · cases c with
      | true =>
        rw [Bool.or_eq_true] at hc
        rcases hc with hc | hc
        · exact .inr (.inl (Nat.eq_of_beq_eq_true hc))
        · exact .inr (.inr hc)
      | false => exact .inl (by simp)
    · rcases badW_spec (i := i) (l := l) (ds := ds) h with h | h
      · cases c with
        | true => exact .inl h
        | false => exact .inl (List.mem_cons_of_mem _ h)
      · exact .inr h

/-- the check on a region that draws: m operations make the body -/
def chk (N : Nat) (l : List Oper) (m : Nat) (ds : List Nat) : Bool :=
  Nat.ble m l.length && ((List.range m).map (dstAt l) == ds.map some) && ds.all (fun d => Nat.blt d N) && ((List.range m).all fun i => (List.range m).all fun j => Nat.beq i j || !(Nat.beq (ds.getD i 0) (ds.getD j 0))) &&
  ((List.range l.length).all fun i => ((l[i]?).map fun o => (o.after.toList.all fun e => !Region.binds .any e || Nat.blt e.on i) && (match o.op with | .defer _ | .select .. => false | _ => true)).getD false) &&
  ((List.range l.length).all fun i => Nat.blt i m || (List.range i).all fun j => dir2 l i j)

section
variable {P : Program} {N : Nat} {Q : Exit → Act → World → Prop} {e : Env} {w : World} {s : Base} {ok : Nat → Prop} {m0 : List Piece}

/-- whatever some operations left -/
def Given (s : Base) (m0 : List Piece) (ok0 : Nat → Prop) (w0 : World) (As : List Asn) (ds : List Nat) (ok1 : Nat → Prop) (w1 : World) : List Nat → Env → (Env → Prop) → Prop
  | [], e, k => k e
  | j :: js, e, k => (match As[j]?, ds[j]? with
    | some (.eqv x), some d => Given s m0 ok0 w0 As ds ok1 w1 js ((d, x) :: e) k
    | some (.is A), some d => ∀ v, Late s m0 ok0 w0 A v ok1 w1 → Given s m0 ok0 w0 As ds ok1 w1 js ((d, v) :: e) k
    | _, _ => False)
/-- an operation of the body has done its part -/
def Got (ok1 : Nat → Prop) (w1 : World) (s : Base) (m0 : List Piece) (d : Nat) (A : Asn) (a : Act) (w' : World) : Prop :=
  a.defers = [] ∧ ∃ v ok', a.tmps.getD d undef = v ∧ A.on v ok' w' ∧ Ex ok1 w1 ok' w' ∧ St s ok' m0 w'
theorem we_got {ok1 ok' : Nat → Prop} {w1 : World} {d : Nat} {A : Asn} {v : Value} (hd : lk e d = some v) (hS : St s ok' m0 w) (hE : Ex ok1 w1 ok' w) (hA : A.on v ok' w) : WE N .normal (Exit.then (Got ok1 w1 s m0 d A) Q) e w := by
  unfold WE
  exact fun a ha => ⟨ha.defers, v, ok', ha.env d v hd, hA, hE, hS⟩

def Obls (P : Program) (N : Nat) (Q : Exit → Act → World → Prop) (e : Env) (s : Base) (m0 : List Piece) (ok0 : Nat → Prop) (w0 : World) (l : List Oper) (m : Nat) (ds ws : List Nat) (AA : List Asn) : Nat → List Oper → List Asn → Prop
  | _, os, [] => ∀ ok1 w1, St s ok1 m0 w1 → Ex ok0 w0 ok1 w1 → Given s m0 ok0 w0 AA ds ok1 w1 (List.range m) (dropE (ws.map fun j => ds.getD j 0) e) fun e' => WL P N l.toArray Q os e' w1
  | _, [], _ :: _ => False
  | i, o :: os, A :: As => (∀ ok1 w1, St s ok1 m0 w1 → Ex ok0 w0 ok1 w1 → Given s m0 ok0 w0 AA ds ok1 w1 (seesI l m i o) (dropE (badW l ds ws i) e) fun e' => WL P N l.toArray (Exit.then (Got ok1 w1 s m0 ((o.dst).getD 0) A) Q) [o] e' w1) ∧
      Obls P N Q e s m0 ok0 w0 l m ds ws AA (i + 1) os As

theorem Obls.at_ {l : List Oper} {m : Nat} {ds ws : List Nat} {AA : List Asn} {ok0 : Nat → Prop} {w0 : World} : ∀ {As : List Asn} {os : List Oper} {i : Nat}, Obls P N Q e s m0 ok0 w0 l m ds ws AA i os As →
    (∀ (j : Nat) (A : Asn), As[j]? = some A → ∃ o, os[j]? = some o ∧ ∀ ok1 w1, St s ok1 m0 w1 → Ex ok0 w0 ok1 w1 → Given s m0 ok0 w0 AA ds ok1 w1 (seesI l m (i + j) o) (dropE (badW l ds ws (i + j)) e) fun e' => WL P N l.toArray (Exit.then (Got ok1 w1 s m0 ((o.dst).getD 0) A) Q) [o] e' w1) ∧
    (∀ ok1 w1, St s ok1 m0 w1 → Ex ok0 w0 ok1 w1 → Given s m0 ok0 w0 AA ds ok1 w1 (List.range m) (dropE (ws.map fun j => ds.getD j 0) e) fun e' => WL P N l.toArray Q (os.drop As.length) e' w1)
  | [], os, i, h => ⟨by simp, by
      cases os <;> simpa [Obls] using h⟩
  | A :: As, [], i, h => by simp [Obls] at h
  | A :: As, o :: os, i, h => by
    simp only [Obls] at h
    obtain ⟨h1, h2⟩ := Obls.at_ h.2
    refine ⟨fun j B hj => ?_, by simpa using h2⟩
    cases j with
    | zero =>
      simp at hj
      subst hj
      exact ⟨o, rfl, by simpa using h.1⟩
    | succ j =>
      obtain ⟨o', e1, e2⟩ := h1 j B (by simpa using hj)
      exact ⟨o', by simpa using e1, by simpa [Nat.add_assoc, Nat.add_comm 1 j] using e2⟩

/-- the frame that the given values and the outer frame make -/
theorem given_sat {As : List Asn} {ds : List Nat} {ok0 ok1 : Nat → Prop} {w0 w1 : World} {a : Act} {k : Env → Prop} : ∀ {js : List Nat} {e : Env}, Given s m0 ok0 w0 As ds ok1 w1 js e k → Sat N e a →
    (∀ j ∈ js, ∀ A d, As[j]? = some A → ds[j]? = some d → Late s m0 ok0 w0 A.on (a.tmps.getD d undef) ok1 w1) → ∃ e', k e' ∧ Sat N e' a
  | [], e, h, ha, _ => ⟨e, h, ha⟩
  | j :: js, e, h, ha, hl => by
    unfold Given at h
    split at h
    · rename_i x d hA hd
      have hx : a.tmps.getD d undef = x := by
        obtain ⟨_, _, h1, _⟩ := hl j (by simp) _ d hA hd
        exact h1
      refine given_sat h ⟨ha.size, ha.defers, fun t v ht => ?_⟩ (fun i hi => hl i (by simp [hi]))
      unfold lk at ht
      by_cases htd : d = t
      · subst htd
        simp at ht
        simp [← ht, ← hx, Array.getD_eq_getD_getElem?]
      · simp [beq_ff htd] at ht
        exact ha.env t v ht
    · rename_i A d hA hd
      refine given_sat (h (a.tmps.getD d undef) (hl j (by simp) _ d hA hd)) ⟨ha.size, ha.defers, fun t v ht => ?_⟩ (fun i hi => hl i (by simp [hi]))
      unfold lk at ht
      by_cases htd : d = t
      · subst htd
        simp at ht
        simp [← ht, Array.getD_eq_getD_getElem?]
      · simp [beq_ff htd] at ht
        exact ha.env t v ht
    · exact h.elim

/-- an operation turns no other slot -/
theorem wp_frame {o : Oper} {a : Act} {K : Act → World → Prop} (h : o.wp P a w K Q) : o.wp P a w (fun a' w' => K a' w' ∧ ((∃ v, a' = a.put o.dst v) ∨ a'.defers ≠ [])) Q := by
  unfold Oper.wp at *
  generalize hr : (execOp a.eval o).run P w = r at *
  cases r with
  | ok n w' =>
    cases n <;> simp only [Oper.upon] at h ⊢
    case value v => exact ⟨h, .inl ⟨v, rfl⟩⟩
    case skip => exact ⟨h, .inl ⟨_, rfl⟩⟩
    case defer d => exact ⟨h, .inr (by cases o.dst <;> simp [Act.put])⟩
    case enter f args => exact Calls.mono h (fun x w'' hx => by cases x <;> first | exact ⟨hx, .inl ⟨_, rfl⟩⟩ | exact hx)
    case row row args => exact Rows.mono h (fun v w'' hx => ⟨hx, .inl ⟨v, rfl⟩⟩)
  | halt x w' => cases x <;> simp only [Oper.upon] at h ⊢ <;> exact h

theorem wp_unthen {o : Oper} {a : Act} {K K' : Act → World → Prop} (h : o.wp P a w K (Exit.then K' Q)) : o.wp P a w K Q := by
  unfold Oper.wp at *
  generalize hr : (execOp a.eval o).run P w = r at *
  cases r with
  | ok n w' =>
    cases n <;> simp only [Oper.upon] at h ⊢
    case enter f args => exact Calls.mono h (fun x w'' hx => by cases x <;> exact hx)
    all_goals exact h
  | halt x w' => cases x <;> simp only [Oper.upon] at h ⊢ <;> exact h
theorem WL.run {ops : Array Oper} {l : List Oper} (h : WL P N ops Q l e w) {a : Act} (ha : Sat N e a) : wpList P ops Q l a w := by
  unfold WL at h
  exact h a ha

theorem count_less {p p' : Nat → Bool} {i : Nat} (hp : p i = true) (hp' : p' i = false) : ∀ {L : List Nat}, i ∈ L → (∀ j ∈ L, p' j = true → p j = true) → L.countP p' + 1 ≤ L.countP p
  | [], h, _ => by simp at h
  | j :: L, h, hs => by
    have hle : L.countP p' ≤ L.countP p := List.countP_mono_left fun x hx h => hs x (by simp [hx]) h
    by_cases hj : j = i
    · subst hj
      simp [hp, hp']
      exact hle
    · have h1 := count_less hp hp' (L := L) (by simpa [Ne.symm hj] using h) (fun x hx => hs x (by simp [hx]))
      have h2 := hs j (by simp)
      simp only [List.countP_cons]
      cases h3 : p' j
      · simp; omega
      · simp [h2 h3]; omega

def left (n : Nat) (listed : Array Bool) : Nat := (List.range n).countP fun j => !listed.getD j true
theorem left_set {n i : Nat} {listed : Array Bool} (hs : listed.size = n) (hi : i < n) (hl : listed.getD i true = false) : left n (listed.setIfInBounds i true) + 1 ≤ left n listed := by
  refine count_less (i := i) (by simpa using hl) ?_ (by simpa using hi) fun j hj h => ?_
  · simp [Array.getD, hs, hi]
  · by_cases hji : i = j
    · subst hji
      simpa using hl
    · simpa [Array.getD_eq_getD_getElem?, Array.getElem?_setIfInBounds_ne hji] using h
theorem getD_set {listed : Array Bool} {i j : Nat} (hi : i < listed.size) : (listed.setIfInBounds i true).getD j true = if i = j then true else listed.getD j true := by
  by_cases h : i = j
  · subst h; simp [Array.getD, hi]
  · simp [Array.getD_eq_getD_getElem?, Array.getElem?_setIfInBounds_ne h, h]

structure Chk (N : Nat) (l : List Oper) (m : Nat) (ds : List Nat) : Prop where
  le : m ≤ l.length
  dst : ∀ i, i < m → ∃ o d, l[i]? = some o ∧ o.dst = some d ∧ ds[i]? = some d
  lt : ∀ d ∈ ds, d < N
  nodup : ∀ (i j d : Nat), ds[i]? = some d → ds[j]? = some d → i = j
  back : ∀ i o, l[i]? = some o → ∀ x ∈ o.after, Region.binds .any x = true → x.on < i
  tail : ∀ i j, m ≤ i → i < l.length → j < i → dir2 l i j = true

theorem Chk.of {l : List Oper} {m : Nat} {ds : List Nat} (h : chk N l m ds = true) : Chk N l m ds := by
  unfold chk at h
  simp only [Bool.and_eq_true] at h
  obtain ⟨⟨⟨⟨⟨h1, h2⟩, h3⟩, h4⟩, h5⟩, h7⟩ := h
  have h1 := Nat.le_of_ble_eq_true h1
  have h2 : (List.range m).map (dstAt l) = ds.map some := by simpa using h2
  have hlen : ds.length = m := by simpa using (congrArg List.length h2).symm
  have hd : ∀ i, i < m → ∃ o d, l[i]? = some o ∧ o.dst = some d ∧ ds[i]? = some d := fun i hi => by
    have h := congrArg (·[i]?) h2
    simp [hi] at h
    have hl : i < l.length := by omega
    refine ⟨l[i], ds[i], by simp, ?_, by simp⟩
    simp [dstAt, hl, hlen, hi] at h
    exact h
  refine ⟨h1, hd, fun d hd => Nat.le_of_ble_eq_true (List.all_eq_true.1 h3 d hd), ?_, ?_, ?_⟩
  · intro i j d hi hj
    have hi' : i < m := by have := (List.getElem?_eq_some_iff.1 hi).1; omega
    have hj' : j < m := by have := (List.getElem?_eq_some_iff.1 hj).1; omega
    have h := List.all_eq_true.1 (List.all_eq_true.1 h4 i (by simpa using hi')) j (by simpa using hj')
    simp [hi, hj] at h
    exact h
  · intro i o ho x hx hb
    have hi : i < l.length := (List.getElem?_eq_some_iff.1 ho).1
    have h := List.all_eq_true.1 h5 i (by simpa using hi)
    simp only [ho, Option.map_some, Option.getD_some, Bool.and_eq_true] at h
    have h := List.all_eq_true.1 h.1 x (by simpa using hx)
    simp [hb] at h
    exact h
  · intro i j hm hi hj
    have h := List.all_eq_true.1 h7 i (by simpa using hi)
    have hb : Nat.blt i m = false := by
      cases hb : Nat.blt i m
      · rfl
      · have := Nat.le_of_ble_eq_true hb; omega
    simp only [hb, Bool.false_or] at h
    exact List.all_eq_true.1 h j (by simpa using hj)

theorem dirE_listed {l : List Oper} {i j : Nat} {listed : Array Bool} (hr : i ∈ Region.ready .any l.toArray listed) (hd : dirE l i j = true) : listed.getD j false = true := by
  obtain ⟨_, o, ho, h⟩ := mem_ready.1 hr
  have ho : l[i]? = some o := by simpa using ho
  simp only [dirE, ho, Option.map_some, Option.getD_some, List.any_eq_true] at hd
  obtain ⟨x, hx, hb⟩ := hd
  simp only [Bool.and_eq_true] at hb
  have := h x (by simpa using hx) hb.1
  rwa [Nat.eq_of_beq_eq_true hb.2] at this

theorem getD_dflt {listed : Array Bool} {j : Nat} (hj : j < listed.size) (b c : Bool) : listed.getD j b = listed.getD j c := by simp [Array.getD, hj]

theorem closed {l : List Oper} {i : Nat} {listed : Array Bool} (hsz : listed.size = l.length) (hi : i ∈ Region.ready .any l.toArray listed) (hcl : ∀ k j, k < l.length → listed.getD k true = true → dirE l k j = true → listed.getD j true = true)
    (hin : i < l.length) (h2 : ∀ j, j < i → dir2 l i j = true) : ∀ (n j : Nat), i - j ≤ n → j < i → listed.getD j true = true
  | 0, j, h, hj => by omega
  | n + 1, j, h, hj => by
    have hd := h2 j hj
    unfold dir2 at hd
    rw [Bool.or_eq_true] at hd
    rcases hd with hd | hd
    · rw [getD_dflt (by omega) true false]; exact dirE_listed hi hd
    · obtain ⟨k, hk, hk2⟩ := List.any_eq_true.1 hd
      simp only [Bool.and_eq_true] at hk2
      have hki : k < i := by simpa using hk
      have hjk : j < k := Nat.le_of_ble_eq_true hk2.1
      exact hcl k j (by omega) (closed hsz hi hcl hin h2 n k (by omega) hki) hk2.2

/-- the rest, in the text's order -/
theorem wpAny_tail {l : List Oper} {m : Nat} {ds : List Nat} (hc : Chk N l m ds) : ∀ (fuel t : Nat) (listed : Array Bool) (a : Act) (w : World), listed.size = l.length → (∀ j, j < l.length → listed.getD j true = decide (j < t)) → m ≤ t → t ≤ l.length → l.length - t ≤ fuel →
    wpList P l.toArray Q (l.drop t) a w → wpAny P .any l.toArray Q fuel listed a w
  | fuel, t, listed, a, w, hsz, hl, hm, ht, hf, h => by
    have only : ∀ i ∈ Region.ready .any l.toArray listed, i = t := fun i hi => by
      obtain ⟨h0, o, ho, _⟩ := mem_ready.1 hi
      have hin : i < l.length := by have := (Array.getElem?_eq_some_iff.1 ho).1; simpa using this
      rw [hl i hin] at h0
      have hti : t ≤ i := by simpa using h0
      rcases Nat.lt_or_ge t i with hlt | hge
      · have hcon := closed hsz hi (fun k j hk hkl hd => by
          rw [hl k hk] at hkl
          have hkt : k < t := by simpa using hkl
          simp only [dirE, List.getElem?_eq_getElem hk, Option.map_some, Option.getD_some, List.any_eq_true] at hd
          obtain ⟨x, hx, hb⟩ := hd
          simp only [Bool.and_eq_true] at hb
          have hb1 := hc.back k l[k] (List.getElem?_eq_getElem hk) x (by simpa using hx) hb.1
          have hb2 := Nat.eq_of_beq_eq_true hb.2
          rw [hl j (by omega)]
          simp; omega) hin (fun j hj => hc.tail i j (by omega) hin hj) i t (by omega) hlt
        rw [hl t (by omega)] at hcon
        simp at hcon
      · omega
    have isin : t < l.length → t ∈ Region.ready .any l.toArray listed := fun hlt => by
      refine mem_ready.2 ⟨by rw [hl t hlt]; simp, l[t], by simp [hlt], fun x hx hb => ?_⟩
      have hb1 := hc.back t l[t] (List.getElem?_eq_getElem hlt) x hx hb
      rw [getD_dflt (by omega) false true, hl _ (by omega)]
      simpa using hb1
    rcases Nat.lt_or_ge t l.length with hlt | hge
    · cases fuel with
      | zero => omega
      | succ fuel =>
        refine ⟨fun hr => (by have := isin hlt; rw [hr] at this; simp at this), fun i hi => ?_⟩
        have hit := only i hi
        subst hit
        rw [List.drop_eq_getElem_cons hlt] at h
        unfold wpList at h
        have next : ∀ a' w', wpList P l.toArray Q (l.drop (i + 1)) a' w' → wpAny P .any l.toArray Q fuel (listed.setIfInBounds i true) a' w' := fun a' w' h' =>
          wpAny_tail hc fuel (i + 1) _ a' w' (by simpa using hsz) (fun j hj => by
            rw [getD_set (by omega)]
            by_cases h : i = j
            · simp [h]
            · simp [h, hl j hj]; omega) (by omega) (by omega) (by omega) h'
        simp only [wpOp, List.getElem?_toArray, List.getElem?_eq_getElem hlt]
        split
        · rename_i hw
          simp only [hw, if_true] at h
          exact h.imp (Oper.wp_mono next) id
        · rename_i hw
          simp only [hw] at h
          exact next _ _ h
    · have hnil : Region.ready .any l.toArray listed = [] := by
        cases hr : Region.ready .any l.toArray listed with
        | nil => rfl
        | cons i rs =>
          have hi : i ∈ Region.ready .any l.toArray listed := by rw [hr]; simp
          have hit := only i hi
          obtain ⟨_, o, ho, _⟩ := mem_ready.1 hi
          have : i < l.length := by have := (Array.getElem?_eq_some_iff.1 ho).1; simpa using this
          omega
      have hn : Q .normal a w := by simpa [List.drop_eq_nil_of_le hge, wpList] using h
      cases fuel with
      | zero => exact ⟨hnil, hn⟩
      | succ fuel => exact ⟨fun _ => hn, fun i hi => by rw [hnil] at hi; simp at hi⟩

theorem reach_listed {l : List Oper} {listed : Array Bool} (hsz : listed.size = l.length) (hcl : ∀ k j, k < l.length → listed.getD k true = true → dirE l k j = true → listed.getD j true = true) : ∀ {n j i : Nat}, j < l.length → listed.getD j true = true → reach l n j i = true → listed.getD i true = true
  | 0, j, i, hj, hl, h => hcl j i hj hl h
  | n + 1, j, i, hj, hl, h => by
    unfold reach at h
    rw [Bool.or_eq_true] at h
    rcases h with h | h
    · exact hcl j i hj hl h
    · obtain ⟨k, hk, hk2⟩ := List.any_eq_true.1 h
      simp only [Bool.and_eq_true] at hk2
      have hkj : k < j := by simpa using hk
      exact reach_listed hsz hcl (by omega) (hcl j k hj hl hk2.1) hk2.2
theorem wpAny_body {l : List Oper} {m : Nat} {ds ws : List Nat} {AA : List Asn} {ok0 : Nat → Prop} {w0 : World} (hc : Chk N l m ds) (hA : AA.length = m) (hds : ds.length = m) (hfr : ∀ j d, ds[j]? = some d → j ∈ ws ∨ lk e d = none)
    (ho : Obls P N Q e s m0 ok0 w0 l m ds ws AA 0 l AA) : ∀ (fuel : Nat) (listed : Array Bool) (a : Act) (ok1 : Nat → Prop) (w1 : World), listed.size = l.length → (∀ j, m ≤ j → j < l.length → listed.getD j true = false) →
    (∀ k j, k < l.length → listed.getD k true = true → dirE l k j = true → listed.getD j true = true) → left l.length listed ≤ fuel →
    a.tmps.size = N → a.defers = [] → (∀ t v, lk e t = some v → (∀ j, j < m → listed.getD j true = true → ds[j]? ≠ some t) → a.tmps.getD t undef = v) → St s ok1 m0 w1 → Ex ok0 w0 ok1 w1 → (∀ j, j < m → listed.getD j true = true → ∀ A d, AA[j]? = some A → ds[j]? = some d → Late s m0 ok0 w0 A.on (a.tmps.getD d undef) ok1 w1) →
    wpAny P .any l.toArray Q fuel listed a w1
  | fuel, listed, a, ok1, w1, hsz, htl, hcl, hf, ha1, ha2, ha3, hS, hE, hL => by
    obtain ⟨hbody, hrest⟩ := Obls.at_ ho
    have hml := hc.le
    by_cases hall : ∀ j, j < m → listed.getD j true = true
    · obtain ⟨e', hk, ha'⟩ := given_sat (hrest ok1 w1 hS hE) ⟨ha1, ha2, fun t v ht => ha3 t v (lk_dropE ht).1 (fun j hj _ hd => by
        rcases hfr j t hd with h | h
        · exact (lk_dropE ht).2 (List.mem_map.2 ⟨j, h, by simp [hd]⟩)
        · rw [(lk_dropE ht).1] at h; simp at h)⟩ (fun j hj A d h1 h2 => hL j (by simpa using hj) (hall j (by simpa using hj)) A d h1 h2)
      rw [hA] at hk
      refine wpAny_tail hc fuel m listed a w1 hsz (fun j hj => ?_) (Nat.le_refl _) hml ?_ (hk.run ha')
      · by_cases h : j < m
        · simp [hall j h, h]
        · simp [htl j (by omega) hj, h]
      · refine Nat.le_trans ?_ hf
        unfold left
        have e1 : List.range l.length = List.range m ++ List.range' m (l.length - m) := by
          have h := List.range'_append_1 (s := 0) (m := m) (n := l.length - m)
          rw [List.range_eq_range', List.range_eq_range', show l.length = m + (l.length - m) by omega, ← h]
          simp
        rw [e1, List.countP_append]
        have e2 : (List.range' m (l.length - m)).countP (fun j => !listed.getD j true) = l.length - m := by
          rw [List.countP_eq_length.2 (fun j hj => by
            have := List.mem_range'_1.1 hj
            rw [htl j (by omega) (by omega)]; rfl)]
          simp
        omega
    · have hex : ∃ j, j < m ∧ listed.getD j true = false := by
        obtain ⟨j, hj⟩ := Classical.not_forall.1 hall
        obtain ⟨hj1, hj2⟩ := Classical.not_imp.1 hj
        exact ⟨j, hj1, by simpa using hj2⟩
      have hleast : ∃ t, (t < m ∧ listed.getD t true = false) ∧ ∀ i, i < t → listed.getD i true = true := by
        obtain ⟨j, hj⟩ := hex
        induction j using Nat.strongRecOn with
        | ind j ih =>
          by_cases h : ∃ i, i < j ∧ listed.getD i true = false
          · obtain ⟨i, h1, h2⟩ := h
            exact ih i h1 ⟨by omega, h2⟩
          · exact ⟨j, hj, fun i hi => by
              cases hh : listed.getD i true
              · exact (h ⟨i, hi, hh⟩).elim
              · rfl⟩
      obtain ⟨t, ⟨ht1, ht2⟩, ht3⟩ := hleast
      have htr : t ∈ Region.ready .any l.toArray listed := by
        refine mem_ready.2 ⟨ht2, l[t], by simp, fun x hx hb => ?_⟩
        have hb1 := hc.back t l[t] (List.getElem?_eq_getElem (by omega)) x hx hb
        rw [getD_dflt (by omega) false true]
        exact ht3 _ hb1
      have hpos : 0 < left l.length listed := by
        unfold left
        exact List.countP_pos_iff.2 ⟨t, by simp; omega, by rw [ht2]; rfl⟩
      cases fuel with
      | zero => omega
      | succ fuel =>
        refine ⟨fun hr => (by rw [hr] at htr; simp at htr), fun i hi => ?_⟩
        obtain ⟨hi0, o, hio, hdeps⟩ := mem_ready.1 hi
        have hio : l[i]? = some o := by simpa using hio
        have hin : i < l.length := (List.getElem?_eq_some_iff.1 hio).1
        have him : i < m := by
          rcases Nat.lt_or_ge i m with h | h
          · exact h
          · have := closed hsz hi hcl hin (fun j hj => hc.tail i j h hin hj) i t (by omega) (by omega)
            rw [ht2] at this
            simp at this
        obtain ⟨o', d, ho', hdst, hdi⟩ := hc.dst i him
        rw [hio] at ho'
        obtain rfl : o = o' := by simpa using ho'
        have hdm : d ∈ ds := List.mem_of_getElem? hdi
        obtain ⟨o', ho', hob⟩ := hbody i AA[i] (List.getElem?_eq_getElem (by omega))
        rw [hio] at ho'
        obtain rfl : o = o' := by simpa using ho'
        have hg := hob ok1 w1 hS hE
        rw [Nat.zero_add] at hg
        obtain ⟨e', hk, ha'⟩ := given_sat hg ⟨ha1, ha2, fun t v ht => ha3 t v (lk_dropE ht).1 (fun j hj hjl hd => by
          rcases hfr j t hd with h | h
          · rcases badW_spec (l := l) (ds := ds) (i := i) h with h | rfl | h
            · exact (lk_dropE ht).2 (by simpa [hd] using h)
            · rw [hi0] at hjl; simp at hjl
            · have := reach_listed hsz hcl (by omega) hjl h
              rw [hi0] at this; simp at this
          · rw [(lk_dropE ht).1] at h; simp at h)⟩ (fun j hj A d' h1 h2 => by
          have hjm : j < m := by have := seesF_spec hj; omega
          have hdj := (seesF_spec hj).2.2.2
          refine hL j hjm ?_ A d' h1 h2
          rw [getD_dflt (by omega) true false]
          exact dirE_listed hi hdj)
        have hwp := hk.run ha'
        unfold wpList at hwp
        have next : ∀ a' w', Got ok1 w1 s m0 d AA[i] a' w' → ((∃ v, a' = a.put (some d) v) ∨ a'.defers ≠ []) → wpAny P .any l.toArray Q fuel (listed.setIfInBounds i true) a' w' := fun a' w' hG hput => by
          obtain ⟨hdf, v, ok', hv, hAv, hE', hS'⟩ := hG
          rcases hput with ⟨u, rfl⟩ | h
          · have hput : ∀ t, t ≠ d → (a.put (some d) u).tmps.getD t undef = a.tmps.getD t undef := fun t ht => by
              simp [Act.put, Array.getD_eq_getD_getElem?, Array.getElem?_setIfInBounds_ne (Ne.symm ht)]
            refine wpAny_body hc hA hds hfr ho fuel _ _ ok' w' (by simpa using hsz) (fun j h1 h2 => ?_) (fun k j hk hkl hd => ?_) ?_ (by simpa [Act.put] using ha1) hdf (fun t v ht hno => ?_) hS' (hE.trans hE') (fun j hj hjl A d' h1 h2 => ?_)
            · rw [getD_set (by omega), if_neg (by omega)]
              exact htl j h1 h2
            · rw [getD_set (by omega)] at hkl ⊢
              split
              · rfl
              · by_cases hik : i = k
                · subst hik
                  have := dirE_listed hi hd
                  rcases Nat.lt_or_ge j listed.size with h | h
                  · rwa [getD_dflt h true false]
                  · simp [Array.getD, Nat.not_lt.2 h]
                · rw [if_neg hik] at hkl
                  exact hcl k j hk hkl hd
            · have := left_set hsz hin hi0
              omega
            · have htd : t ≠ d := by
                rintro rfl
                exact hno i him (by rw [getD_set (by omega), if_pos rfl]) hdi
              rw [hput t htd]
              exact ha3 t v ht (fun j hj hjl => hno j hj (by
                rw [getD_set (by omega)]
                split
                · rfl
                · exact hjl))
            · by_cases hij : i = j
              · subst hij
                rw [hdi] at h2
                obtain rfl : d = d' := by simpa using h2
                rw [List.getElem?_eq_getElem (by omega)] at h1
                obtain rfl : AA[i] = A := by simpa using h1
                exact ⟨ok', w', hv ▸ hAv, hS', hE.trans hE', Ex.refl _ _⟩
              · have hne : d ≠ d' := fun h => hij (hc.nodup i j d hdi (h ▸ h2))
                rw [hput d' (Ne.symm hne)]
                rw [getD_set (by omega), if_neg hij] at hjl
                exact (hL j hj hjl A d' h1 h2).ex hE'
          · exact absurd hdf h
        simp only [wpOp, List.getElem?_toArray, hio]
        rw [hdst] at hwp
        split
        · rename_i hw
          simp only [hw, if_true] at hwp
          rcases hwp with hwp | ⟨h1, h2⟩
          · left
            have := wp_frame (wp_unthen hwp)
            refine Oper.wp_mono (fun a' w' h => ?_) this
            rw [hdst] at h
            exact next a' w' h.1 h.2
          · exact .inr ⟨h1, h2⟩
        · rename_i hw
          simp only [hw] at hwp
          rw [hdst]
          exact next _ _ hwp (.inl ⟨_, rfl⟩)

/-- A REGION THAT DRAWS ITS ORDER: m operations make the body, ds their slots; ws: those among them that write a slot anew -/
theorem wc_draw {id : Nat} {l : List Oper} (m : Nat) (ds ws : List Nat) (AA : List Asn) (hm : P.follows .mixedOrders = true) (hS : St s ok m0 w) (hc : chk N l m ds = true) (hA : Nat.beq AA.length m = true) (hds : Nat.beq ds.length m = true)
    (hfr : (List.range m).all (fun j => hasN ws j || (lk e (ds.getD j 0)).isNone) = true) (ho : Obls P N Q e s m0 ok w l m ds ws AA 0 l AA) : WC P N (.region id l.toArray true) Q e w := by
  unfold WC
  intro a ha
  refine wp_region_any hm ?_
  have e1 : Ext w { w with drawn := w.drawn + 1 } := Ext.drew w
  refine wpAny_body (Chk.of hc) (Nat.eq_of_beq_eq_true hA) (Nat.eq_of_beq_eq_true hds) (fun j d hd => ?_) ho _ _ a ok _ (by simp) (fun j _ hj => by simp [Array.getD, hj]) (fun k j hk h => ?_) ?_ ha.size ha.defers (fun t v ht _ => ha.env t v ht) (hS.ext e1) (Ex.of_ext e1 ok) (fun j hj h => ?_)
  · have hj : j < m := by have := (List.getElem?_eq_some_iff.1 hd).1; have := Nat.eq_of_beq_eq_true hds; omega
    have h := List.all_eq_true.1 hfr j (by simpa using hj)
    rw [Bool.or_eq_true] at h
    rcases h with h | h
    · rw [hasN_spec] at h
      exact .inl (by simpa using h)
    · exact .inr (by simpa [hd] using h)
  · simp [Array.getD, hk] at h
  · unfold left
    refine Nat.le_trans List.countP_le_length (by simp)
  · have := (Chk.of hc).le
    simp [Array.getD, show j < l.length by omega] at h

/-! what is given, one by one -/
theorem given_nil {ok0 ok1 : Nat → Prop} {w0 w1 : World} {As : List Asn} {ds js : List Nat} {k : Env → Prop} (h : js = []) (hk : k e) : Given s m0 ok0 w0 As ds ok1 w1 js e k := by
  subst h; exact hk
theorem given_eqv {ok0 ok1 : Nat → Prop} {w0 w1 : World} {As : List Asn} {ds js js' : List Nat} {k : Env → Prop} {j d : Nat} {x : Value} (h : js = j :: js') (hA : As[j]? = some (.eqv x)) (hd : ds[j]? = some d)
    (hk : Given s m0 ok0 w0 As ds ok1 w1 js' ((d, x) :: e) k) : Given s m0 ok0 w0 As ds ok1 w1 js e k := by
  subst h
  unfold Given
  simp only [hA, hd]
  exact hk
theorem given_is {ok0 ok1 : Nat → Prop} {w0 w1 : World} {As : List Asn} {ds js js' : List Nat} {k : Env → Prop} {j d : Nat} {A : Value → (Nat → Prop) → World → Prop} (h : js = j :: js') (hA : As[j]? = some (.is A)) (hd : ds[j]? = some d)
    (hk : ∀ v, Late s m0 ok0 w0 A v ok1 w1 → Given s m0 ok0 w0 As ds ok1 w1 js' ((d, v) :: e) k) : Given s m0 ok0 w0 As ds ok1 w1 js e k := by
  subst h
  unfold Given
  simp only [hA, hd]
  exact hk
/-- an operation that leaves a value that is known, and the world as it is -/
theorem we_gotE {ok1 : Nat → Prop} {w1 : World} {d : Nat} {x : Value} (hS : St s ok1 m0 w1) (hd : lk e d = some x) : WE N .normal (Exit.then (Got ok1 w1 s m0 d (.eqv x)) Q) e w1 :=
  we_got hd hS (Ex.refl _ _) rfl
/-- .. and the world grown -/
theorem we_gotX {ok1 ok' : Nat → Prop} {w1 w' : World} {d : Nat} {x : Value} (hS : St s ok' m0 w') (hE : Ex ok1 w1 ok' w') (hd : lk e d = some x) : WE N .normal (Exit.then (Got ok1 w1 s m0 d (.eqv x)) Q) e w' :=
  we_got hd hS hE rfl
theorem obls_cons {l : List Oper} {m : Nat} {ds ws : List Nat} {AA As : List Asn} {ok0 : Nat → Prop} {w0 : World} {i : Nat} {o : Oper} {os : List Oper} {A : Asn}
    (h1 : ∀ ok1 w1, St s ok1 m0 w1 → Ex ok0 w0 ok1 w1 → Given s m0 ok0 w0 AA ds ok1 w1 (seesI l m i o) (dropE (badW l ds ws i) e) fun e' => WL P N l.toArray (Exit.then (Got ok1 w1 s m0 ((o.dst).getD 0) A) Q) [o] e' w1)
    (h2 : Obls P N Q e s m0 ok0 w0 l m ds ws AA (i + 1) os As) : Obls P N Q e s m0 ok0 w0 l m ds ws AA i (o :: os) (A :: As) := ⟨h1, h2⟩
theorem obls_nil {l : List Oper} {m : Nat} {ds ws : List Nat} {AA : List Asn} {ok0 : Nat → Prop} {w0 : World} {i : Nat} {os : List Oper}
    (h : ∀ ok1 w1, St s ok1 m0 w1 → Ex ok0 w0 ok1 w1 → Given s m0 ok0 w0 AA ds ok1 w1 (List.range m) (dropE (ws.map fun j => ds.getD j 0) e) fun e' => WL P N l.toArray Q os e' w1) : Obls P N Q e s m0 ok0 w0 l m ds ws AA i os [] := by
  cases os <;> exact h
end
end Tw

namespace Tw
open Go Go.RowKit
section
variable {P : Program} {N : Nat} {ops : Array Oper} {Q : Exit → Act → World → Prop} {rest : List Oper} {e : Env} {w w' : World} {d : Nat} {ty : TypeId} {pos : String} {af : Array Edge} {s : Base} {ok : Nat → Prop} {m : List Piece}

theorem wl_min {x y : Operand} {ts : Array TypeId} {k k' : IntKind} {a b : Int} (hx : ev e x = some (.int k a)) (hy : ev e y = some (.int k' b)) (hd : Nat.blt d N = true)
    (h : WL P N ops Q rest ((d, .int k (min a b)) :: e) w) : WL P N ops Q (⟨some d, .call ⟨.builtin .min, #[x, y], ts⟩, ty, pos, af, none⟩ :: rest) e w :=
  wl_val (fun A hA => by
    have hm : (if b < a then b else a) = min a b := by
      split <;> omega
    simp [execOp, resolve, hA.eval hx, hA.eval hy, invoke, builtin, Builtin.min_, Builtin.min2, hm]) hd h
theorem wl_max {x y : Operand} {ts : Array TypeId} {k k' : IntKind} {a b : Int} (hx : ev e x = some (.int k a)) (hy : ev e y = some (.int k' b)) (hd : Nat.blt d N = true)
    (h : WL P N ops Q rest ((d, .int k (max a b)) :: e) w) : WL P N ops Q (⟨some d, .call ⟨.builtin .max, #[x, y], ts⟩, ty, pos, af, none⟩ :: rest) e w :=
  wl_val (fun A hA => by
    have hm : (if a < b then b else a) = max a b := by
      split <;> omega
    simp [execOp, resolve, hA.eval hx, hA.eval hy, invoke, builtin, Builtin.max_, Builtin.max2, hm]) hd h

theorem Sat.also {a : Act} {t : Nat} {v : Value} (ha : Sat N e a) (hv : lk e t = some v) : Sat N ((t, v) :: e) a := by
  refine ⟨ha.size, ha.defers, fun x u hx => ?_⟩
  unfold lk at hx
  by_cases h : t = x
  · subst h
    simp at hx
    exact ha.env t u (by rw [hv, hx])
  · simp [beq_ff h] at hx
    exact ha.env x u hx
/-- a guard that is not known yet: two ways -/
theorem wl_guard {op : Op} {dst : Nat} {g : Nat} {b c : Bool} (t : Nat) (hc : lk e t = some (.bool c))
    (h1 : c = b → WL P N ops Q (⟨some dst, op, ty, pos, af, some (g, b)⟩ :: rest) ((t, .bool b) :: e) w) (h2 : c = !b → WL P N ops Q (⟨some dst, op, ty, pos, af, some (g, b)⟩ :: rest) ((t, .bool (!b)) :: e) w) :
    WL P N ops Q (⟨some dst, op, ty, pos, af, some (g, b)⟩ :: rest) e w := by
  unfold WL at *
  intro a ha
  by_cases h : c = b
  · exact h1 h a (ha.also (by rw [hc, h]))
  · have h' : c = !b := by cases c <;> cases b <;> simp_all
    exact h2 h' a (ha.also (by rw [hc, h']))
theorem wl_onW {op : Op} {dst : Option Tmp} {g : Nat} {b : Bool} {t : Nat} (ht : (ops[g]?).bind (·.dst) = some t) (hb : lk e t = some (.bool b)) (h : WL P N ops Q (⟨dst, op, ty, pos, af, none⟩ :: rest) e w) :
    WL P N ops Q (⟨dst, op, ty, pos, af, some (g, b)⟩ :: rest) e w := by
  unfold WL at h
  exact wl_on ht hb h
/-- a value that is known under another form -/
theorem wl_as {l : List Oper} (t : Nat) {v v' : Value} (hv : lk e t = some v) (hvv : v = v') (h : WL P N ops Q l ((t, v') :: e) w) : WL P N ops Q l e w := by
  subst hvv
  unfold WL at *
  intro a ha
  exact h a (ha.also hv)
theorem we_as {x : Exit} (t : Nat) {v v' : Value} (hv : lk e t = some v) (hvv : v = v') (h : WE N x Q ((t, v') :: e) w) : WE N x Q e w := by
  subst hvv
  unfold WE at *
  intro a ha
  exact h a (ha.also hv)
theorem wc_as {c : Code} (t : Nat) {v v' : Value} (hv : lk e t = some v) (hvv : v = v') (h : WC P N c Q ((t, v') :: e) w) : WC P N c Q e w := by
  subst hvv
  unfold WC at *
  intro a ha
  exact h a (ha.also hv)
theorem u8w (n : Nat) : Value.int .u8 (IntKind.u8.wrap (n : Int)) = u8v (UInt8.ofNat n) := by
  unfold u8v
  rw [IntKind.wrap_u8]
  congr 1

/-! what is one's own, read as a slice of the present world -/
abbrev Now : Nat → Prop := fun _ => True
theorem St.rowSl (hS : St s ok m w) (i : Nat) {v : Value} {E : TypeId} {k : Nat} {vs : List Value} (hm : m[i]? = some (.row v E k vs)) : Sl Now w E k v vs := by
  obtain ⟨hat, hg, hk⟩ := hS.at_ _ (List.mem_of_getElem? hm)
  refine ⟨hk, hg, ?_⟩
  rcases hat.2 with ⟨rfl, hn⟩ | ⟨g, cap, cur, rfl, _, hh, hnc, hcm, hcs, htk⟩
  · have : vs = [] := List.eq_nil_of_length_eq_zero hn
    subst this
    exact ⟨none, 0, rfl, Nat.le_refl _, by simp [maxLen], by simp⟩
  · refine ⟨some ⟨g, 0, none⟩, cap, rfl, hnc, hcm, fun _ => ⟨g, 0, rfl, trivial, rfl, cur, E, _, hh, ?_⟩⟩
    rw [List.drop_zero, fl_length hk]
    exact htk
theorem Sl.shape {ok : Nat → Prop} {E : TypeId} {k : Nat} {v : Value} {vs : List Value} (h : Sl ok w E k v vs) : ∃ A c, v = .slice A vs.length c := by
  obtain ⟨_, _, A, c, hv, _⟩ := h
  exact ⟨A, c, hv⟩
theorem St.varSl (hS : St s ok m w) {g : Nat} {T : TypeId} {vs : List Value} (hm : Has m (.var g T vs)) (E : TypeId) {k : Nat} (hk : ∀ x ∈ vs, x.cells.size = k) (hmx : vs.length ≤ maxLen) : Sl Now w E k (.slice (some ⟨g, 0, none⟩) vs.length vs.length) vs := by
  obtain ⟨hb, hg⟩ := hS.at_ _ hm.mem
  exact ⟨hk, hg, _, _, rfl, Nat.le_refl _, hmx, fun _ => ⟨g, 0, rfl, trivial, rfl, Rg.of_block hb⟩⟩
/-- an own row becomes data -/
theorem St.freezeAt (hS : St s ok m w) (i : Nat) {v : Value} {E : TypeId} {k : Nat} {vs : List Value} (hm : m[i]? = some (.row v E k vs)) (hs : ∀ b, s.w.heap.size ≤ b → s.ok b) (hv : ∀ g, ¬ s.md g) :
    ∃ ok', St s ok' (m.eraseIdx i) w ∧ Stp ok w ok' w ∧ Sl ok' w E k v vs := by
  have hlt : i < m.length := (List.getElem?_eq_some_iff.1 hm).1
  have hme : m = m.take i ++ .row v E k vs :: m.drop (i + 1) := by
    have h1 : m[i] = .row v E k vs := (List.getElem?_eq_some_iff.1 hm).2
    rw [← h1, ← List.drop_eq_getElem_cons hlt, List.take_append_drop]
  rw [hme] at hS
  obtain ⟨ok', h1, h2, h3⟩ := hS.freeze hs (fun g _ => hv g)
  refine ⟨ok', ?_, h2, h3⟩
  rw [List.eraseIdx_eq_take_drop_succ]
  exact h1

/-! comparison with nil -/
def eqs : BinOp → Bool → Option Bool
  | .eql, b => some b
  | .neq, b => some (!b)
  | _, _ => none
theorem run_eqs {op : BinOp} {T yT : TypeId} {x y : Operand} {a b : Value} {r c : Bool} (hx : ev e x = some a) (hy : ev e y = some b) (hne : ∀ k n, a ≠ .int k n) (hne2 : ∀ s, a ≠ .string s) (hne3 : ∀ k n, a ≠ .float k n) (hne4 : ∀ k m n, a ≠ .complex k m n)
    (hg : (eqGuard op T x y a b).run P w = .ok () w) (hr : (Op.equal T a b).run P w = .ok r w) (hc : eqs op r = some c) : ∀ A, Sat N e A → (execOp A.eval ⟨some d, .binOp op T x y yT, ty, pos, af, none⟩).run P w = .ok (.value (.bool c)) w := fun A hA => by
  have hb : (binOp op T a b).run P w = .ok (.bool c) w := by
    cases op <;> (first | (cases hc; done) | skip)
    · injection hc with hc
      subst hc
      cases a <;> first | exact absurd rfl (hne _ _) | exact absurd rfl (hne2 _) | exact absurd rfl (hne3 _ _) | exact absurd rfl (hne4 _ _ _) | (simp [binOp, hr])
    · injection hc with hc
      subst hc
      cases a <;> first | exact absurd rfl (hne _ _) | exact absurd rfl (hne2 _) | exact absurd rfl (hne3 _ _) | exact absurd rfl (hne4 _ _ _) | (simp [binOp, hr])
  simp [execOp, hA.eval hx, hA.eval hy, hg, hb]
theorem wl_ptrN {op : BinOp} {T yT E : TypeId} [t : TyP P T E] {x y : Operand} {p : Option Addr} {c : Bool} (hx : ev e x = some (.pointer p)) (hy : ev e y = some (.pointer none)) (hc : eqs op p.isNone = some c) (hd : Nat.blt d N = true)
    (h : WL P N ops Q rest ((d, .bool c) :: e) w) : WL P N ops Q (⟨some d, .binOp op T x y yT, ty, pos, af, none⟩ :: rest) e w :=
  wl_val (run_eqs hx hy (by simp) (by simp) (by simp) (by simp) (by unfold eqGuard; cases op <;> rfl) (by
    have h : ∀ d : Nat, (Op.equalIn (d + 1) T (.pointer p) (.pointer none)).run P w = .ok p.isNone w := fun d => by cases p <;> simp [Op.equalIn, run_underlying t.out]
    exact h 9999) hc) hd h
theorem wl_sliN {op : BinOp} {T yT E : TypeId} {k b : Nat} [t : TyL P T E k b] {x y : Operand} {p : Option Addr} {n m : Nat} {c : Bool} (hx : ev e x = some (.slice p n m)) (hy : ev e y = some (.slice none 0 0)) (hc : eqs op p.isNone = some c) (hd : Nat.blt d N = true)
    (h : WL P N ops Q rest ((d, .bool c) :: e) w) : WL P N ops Q (⟨some d, .binOp op T x y yT, ty, pos, af, none⟩ :: rest) e w :=
  wl_val (run_eqs hx hy (by simp) (by simp) (by simp) (by simp) (by unfold eqGuard; cases op <;> rfl) (by
    have h : ∀ d : Nat, (Op.equalIn (d + 1) T (.slice p n m) (.slice none 0 0)).run P w = .ok p.isNone w := fun d => by cases p <;> simp [Op.equalIn, run_underlying t.out]
    exact h 9999) hc) hd h

theorem wc_scope {c : Code} (h : WC P N c (Exit.noGoto Q) e w) : WC P N (.scope c) Q e w := by
  unfold WC at *
  exact fun a ha => wp_scope_straight (h a ha)
theorem wc_label {l : Nat} (h : WE N .normal Q e w) : WC P N (.label l) Q e w := by
  unfold WC WE at *
  exact fun a ha => wp_label (h a ha)
theorem we_noGoto (h : WE N .normal Q e w) : WE N .normal (Exit.noGoto Q) e w := by
  unfold WE at *
  exact h
theorem we_noGotoR (h : WE N .ret Q e w) : WE N .ret (Exit.noGoto Q) e w := by
  unfold WE at *
  exact h
theorem we_noGotoX {i : Nat} (h : WE N (.exit i) Q e w) : WE N (.exit i) (Exit.noGoto Q) e w := by
  unfold WE at *
  exact h
end
end Tw

namespace Tw
open Go Go.RowKit
/-- each part is one cell -/
def Units (vs : List Value) : Prop := ∀ x ∈ vs, isAggV x = false
theorem Units.cells {x : Value} (h : isAggV x = false) : x.cells = #[x] := by cases x <;> first | rfl | simp [isAggV] at h
theorem Units.fl {vs : List Value} (h : Units vs) : fl vs = vs := by
  induction vs with
  | nil => rfl
  | cons v vs ih =>
    rw [fl_cons, Units.cells (h v (by simp)), ih (fun x hx => h x (by simp [hx]))]
    rfl
theorem Units.append {a b : List Value} (h : Units a) (k : Units b) : Units (a ++ b) := fun x hx => (List.mem_append.1 hx).elim (h x) (k x)
theorem Units.cons {v : Value} {vs : List Value} (h : isAggV v = false) (k : Units vs) : Units (v :: vs) := fun x hx => (List.mem_cons.1 hx).elim (fun e => e ▸ h) (k x)
theorem Units.nil : Units [] := by simp [Units]
theorem Units.map {α : Type} {f : α → Value} (h : ∀ a, isAggV (f a) = false) (l : List α) : Units (l.map f) := fun x hx => by
  obtain ⟨a, _, rfl⟩ := List.mem_map.1 hx
  exact h a
theorem Units.sub {a b : List Value} (h : Units a) (hs : ∀ x ∈ b, x ∈ a) : Units b := fun x hx => h x (hs x hx)
theorem Units.set {vs : List Value} {u : Value} (h : Units vs) (hu : isAggV u = false) (i : Nat) : Units (vs.set i u) := fun x hx => by
  rcases List.mem_or_eq_of_mem_set hx with hx | rfl
  · exact h x hx
  · exact hu
theorem Units.size {vs : List Value} (h : Units vs) : ∀ x ∈ vs, x.cells.size = 1 := fun x hx => by rw [Units.cells (h x hx)]; rfl
theorem Good.append' {a b : List Value} (h : Good a) (k : Good b) : Good (a ++ b) := Good.append h k
theorem Good.map {α : Type} {f : α → Value} (h : ∀ a, Good [f a]) : ∀ l : List α, Good (l.map f)
  | [] => Good.nil
  | a :: l => by
    rw [List.map_cons, show f a :: l.map f = [f a] ++ l.map f from rfl]
    exact (h a).append (Good.map h l)

section
variable {P : Program} {N : Nat} {ops : Array Oper} {Q : Exit → Act → World → Prop} {rest : List Oper} {e : Env} {w w' : World} {d : Nat} {ty : TypeId} {pos : String} {af : Array Edge} {s : Base} {ok : Nat → Prop} {m : List Piece}

/-- an element's place in an array -/
theorem wl_idxA {T E : TypeId} {n k : Nat} [t : TyA P T n E k] {x ix : Operand} {kd : IntKind} {g o : Nat} {i : Int} (j : Nat) (hx : ev e x = some (.pointer (some ⟨g, o, none⟩))) (hi : ev e ix = some (.int kd i)) (hj : i = (j : Int)) (hlt : j < n) (hd : Nat.blt d N = true)
    (h : WL P N ops Q rest ((d, .pointer (some ⟨g, o + j * k, none⟩)) :: e) w) : WL P N ops Q (⟨some d, .indexAddr T x ix, ty, pos, af, none⟩ :: rest) e w := by
  subst hj
  have hin : (0 : Int) ≤ (j : Int) ∧ (j : Int) < (n : Nat) := by omega
  exact wl_val (fun B hB => by
    simp only [execOp, hB.eval hx, hB.eval hi, Instr.indexAt, asIntOf, Instr.sureAddr, Sem.run_bind, Sem.run_pure, Result.andThen_ok, run_underlying t.out, hin, and_self, if_true, run_sizeOf t.sz, Int.toNat_natCast, add_mid]) hd h
/-- a part of a variable of one-cell parts -/
theorem wl_loadU {T : TypeId} [t : Ty P T false 1] {x : Operand} {g o : Nat} {T0 : TypeId} {vs : List Value} {v : Value} (hS : St s ok m w) (hx : ev e x = some (.pointer (some ⟨g, o, none⟩))) (hm : Has m (.var g T0 vs)) (hu : Units vs)
    (hv : vs[o]? = some v) (hd : Nat.blt d N = true) (h : WL P N ops Q rest ((d, v) :: e) w) : WL P N ops Q (⟨some d, .load T x, ty, pos, af, none⟩ :: rest) e w := by
  obtain ⟨hb, hg⟩ := hS.at_ _ hm.mem
  have hr := Rg.of_block hb
  rw [hu.fl] at hr
  have hva := hu v (List.mem_of_getElem? hv)
  have hr' := hr.sub o 1
  have hlt : o < vs.length := (List.getElem?_eq_some_iff.1 hv).1
  rw [Nat.zero_add, show (vs.drop o).take 1 = [v] by rw [List.drop_eq_getElem_cons hlt, List.take_succ_cons, List.take_zero]; simp [(List.getElem?_eq_some_iff.1 hv).2]] at hr'
  have hc := Units.cells hva
  exact wl_loadP hx (run_loadVar_rg t (v := v) (by rw [hc]; exact hr') (by rw [hc]; rfl) (by simp) (fun _ => hc)) hd h
/-- .. a run of them -/
theorem wl_loadUA {T : TypeId} {k : Nat} [t : Ty P T true k] {x : Operand} {g o : Nat} {T0 : TypeId} {vs xs : List Value} (hS : St s ok m w) (hx : ev e x = some (.pointer (some ⟨g, o, none⟩))) (hm : Has m (.var g T0 vs)) (hu : Units vs)
    (hv : (vs.drop o).take k = xs) (hk : xs.length = k) (hd : Nat.blt d N = true) (h : WL P N ops Q rest ((d, st xs) :: e) w) : WL P N ops Q (⟨some d, .load T x, ty, pos, af, none⟩ :: rest) e w := by
  obtain ⟨hb, hg⟩ := hS.at_ _ hm.mem
  have hr := Rg.of_block hb
  rw [hu.fl] at hr
  have hux : Units xs := hu.sub (fun x hx => by rw [← hv] at hx; exact List.mem_of_mem_drop (List.mem_of_mem_take hx))
  have hr' := hr.sub o k
  rw [Nat.zero_add, hv] at hr'
  have hc : (st xs).cells = xs.toArray := by simp [st, Value.cells, hux.fl]
  exact wl_loadP hx (run_loadVar_rg t (v := st xs) (by rw [hc]; exact hr') (by rw [hc]; simpa using hk) (fun _ => by simp [st, Value.cells]) (by simp)) hd h
theorem wl_storeU {T : TypeId} [t : Ty P T false 1] {x y : Operand} {g o : Nat} {T0 : TypeId} {vs : List Value} {u : Value} {m' : List Piece} (hS : St s ok m w) (hx : ev e x = some (.pointer (some ⟨g, o, none⟩)))
    (hy : ev e y = some u) (hu : Upd m (.var g T0 vs) (.var g T0 (vs.set o u)) m') (hus : Units vs) (ha : isAggV u = false) (h1 : Good [u]) (ho : o < vs.length)
    (h : ∀ w', St s ok m' w' → Stp ok w ok w' → WL P N ops Q rest e w') : WL P N ops Q (⟨none, .store T x y, ty, pos, af, none⟩ :: rest) e w := by
  obtain ⟨pre, post, rfl, rfl⟩ := hu.parts
  obtain ⟨hb, hg⟩ := hS.at_ (.var g T0 vs) (by simp)
  have hc := Units.cells ha
  have hrun := run_storeVar_at (P := P) t.sz (v := u) (o := o) hb (by rw [hc]; rfl) (by rw [hus.fl]; simp; omega) (by rw [hc]; intro v hv; exact h1 v (by rw [fl_cons, hc]; simpa using hv))
  rw [hus.fl, hc] at hrun
  have hset : vs.take o ++ [u] ++ vs.drop (o + 1) = fl (vs.set o u) := by
    rw [(hus.set ha o).fl, List.set_eq_take_append_cons_drop, if_pos ho]
    simp
  simp only at hrun
  rw [hset] at hrun
  obtain ⟨hS', hE⟩ := hS.write (p := .var g T0 vs) (p' := .var g T0 (vs.set o u)) (w' := w.setRow g (fl (vs.set o u)).toArray) ⟨setRow_heap w g _ _ T0 (0, 0) hb, hg.set (h1.one (by simp)) o⟩ rfl rfl (by simp) rfl rfl rfl (fun b hne => setRow_other w g b _ hne)
  exact wl_skip (fun A hA => by simp [execOp, hA.eval hx, hA.eval hy, Instr.storeAt, Instr.sureAddr, hrun]) (h _ hS' hE)
theorem wl_storeUA {T : TypeId} {k : Nat} [t : Ty P T true k] {x y : Operand} {g o : Nat} {T0 : TypeId} {vs xs : List Value} {m' : List Piece} (hS : St s ok m w) (hx : ev e x = some (.pointer (some ⟨g, o, none⟩)))
    (hy : ev e y = some (st xs)) (hu : Upd m (.var g T0 vs) (.var g T0 (vs.take o ++ xs ++ vs.drop (o + k))) m') (hus : Units vs) (hux : Units xs) (h1 : Good xs) (hk : xs.length = k) (ho : o + k ≤ vs.length)
    (h : ∀ w', St s ok m' w' → Stp ok w ok w' → WL P N ops Q rest e w') : WL P N ops Q (⟨none, .store T x y, ty, pos, af, none⟩ :: rest) e w := by
  obtain ⟨pre, post, rfl, rfl⟩ := hu.parts
  obtain ⟨hb, hg⟩ := hS.at_ (.var g T0 vs) (by simp)
  have hc : (st xs).cells = xs.toArray := by simp [st, Value.cells, hux.fl]
  have hrun := run_storeVar_at (P := P) t.sz (v := st xs) (o := o) hb (by rw [hc]; simpa using hk) (by rw [hus.fl]; simpa using ho) (by rw [hc]; intro v hv; exact h1 v (by rw [hux.fl]; exact hv))
  rw [hus.fl, hc] at hrun
  have hun : Units (vs.take o ++ xs ++ vs.drop (o + k)) := ((hus.sub fun x hx => List.mem_of_mem_take hx).append hux).append (hus.sub fun x hx => List.mem_of_mem_drop hx)
  simp only at hrun
  have hgd : Good (vs.take o ++ xs ++ vs.drop (o + k)) := ((hg.of_sub fun x hx => List.mem_of_mem_take hx).append h1).append (hg.of_sub fun x hx => List.mem_of_mem_drop hx)
  generalize hw : vs.take o ++ xs ++ vs.drop (o + k) = vs' at *
  obtain ⟨hS', hE⟩ := hS.write (p := .var g T0 vs) (p' := .var g T0 vs') (w' := w.setRow g vs'.toArray) ⟨by rw [hun.fl]; exact setRow_heap w g _ _ T0 (0, 0) hb, hgd⟩ rfl rfl (by simp) rfl rfl rfl (fun b hne => setRow_other w g b _ hne)
  exact wl_skip (fun A hA => by simp [execOp, hA.eval hx, hA.eval hy, Instr.storeAt, Instr.sureAddr, hrun]) (h _ hS' hE)
/-- a piece of an array variable as a slice -/
theorem wl_sliceAA {T E : TypeId} {n k : Nat} [t : TyA P T n E k] {x : Operand} {g o : Nat} {xl xh : Option Operand} {il ih : Int} (lo hi : Nat) (hx : ev e x = some (.pointer (some ⟨g, o, none⟩)))
    (hl : bnd e 0 xl = some il) (hh : bnd e n xh = some ih) (h1 : il = (lo : Int)) (h2 : ih = (hi : Int)) (h3 : lo ≤ hi) (h4 : hi ≤ n) (h5 : lo < n) (hd : Nat.blt d N = true)
    (h : WL P N ops Q rest ((d, .slice (some ⟨g, o + lo * k, none⟩) (hi - lo) (n - lo)) :: e) w) : WL P N ops Q (⟨some d, .slice T x xl xh none, ty, pos, af, none⟩ :: rest) e w := by
  subst h1 h2
  refine wl_val (fun B hB => ?_) hd h
  have hb := run_bounds (P := P) (w := w) (sl := false) (bnd_spec hB hl) (bnd_spec hB hh) h3 h4
  simp only [execOp, hB.eval hx, Instr.sliceAt, Sem.run_bind, run_underlying t.out, Result.andThen_ok, Option.map_none, Instr.sureAddr, Sem.run_pure, hb, run_sizeOf t.sz, if_neg (show ¬ n = lo by omega), add_mid]
theorem St.varSlU (hS : St s ok m w) {g : Nat} {T : TypeId} {vs : List Value} (hm : Has m (.var g T vs)) (hu : Units vs) (E : TypeId) (o n c : Nat) (ho : o + n ≤ vs.length) (hn : n ≤ c) (hc : c ≤ maxLen) : Sl Now w E 1 (.slice (some ⟨g, o, none⟩) n c) ((vs.drop o).take n) := by
  obtain ⟨hb, hg⟩ := hS.at_ _ hm.mem
  have hmem : ∀ x ∈ (vs.drop o).take n, x ∈ vs := fun x hx => List.mem_of_mem_drop (List.mem_of_mem_take hx)
  have hlen : ((vs.drop o).take n).length = n := by simp; omega
  refine ⟨fun x hx => hu.size x (hmem x hx), hg.of_sub hmem, _, c, by rw [hlen], by omega, hc, fun _ => ⟨g, o, rfl, trivial, rfl, ?_⟩⟩
  have hr := (Rg.of_block hb).sub o n
  rw [hu.fl, Nat.zero_add] at hr
  rw [(hu.sub hmem).fl]
  exact hr
/-- an array value's element -/
theorem wl_index {T E : TypeId} {n : Nat} [t : TyA P T n E 1] [tE : Ty P E false 1] {x ix : Operand} {kd : IntKind} {i : Int} {xs : List Value} {v : Value} (j : Nat) (hx : ev e x = some (st xs)) (hi : ev e ix = some (.int kd i)) (hj : i = (j : Int)) (hlt : j < n) (hu : Units xs) (hv : xs[j]? = some v) (hd : Nat.blt d N = true)
    (h : WL P N ops Q rest ((d, v) :: e) w) : WL P N ops Q (⟨some d, .index T x ix, ty, pos, af, none⟩ :: rest) e w := by
  subst hj
  have hin : (0 : Int) ≤ (j : Int) ∧ (j : Int) < (n : Nat) := by omega
  have hst : st xs = .agg xs.toArray := by simp [st, hu.fl]
  rw [hst] at hx
  have hpart : (part E xs.toArray (j * 1)).run P w = .ok v w := by
    unfold part
    simp only [Sem.run_bind, run_isAgg tE, Result.andThen_ok, Nat.mul_one]
    simp [hv]
  exact wl_val (fun B hB => by
    simp only [execOp, hB.eval hx, hB.eval hi, Instr.index, asIntOf, Sem.run_bind, Sem.run_pure, Result.andThen_ok, run_underlying t.out, hin, and_self, if_true, run_sizeOf t.sz, Int.toNat_natCast, hpart]) hd h

/-! methods that turn one variable -/
/-- the world has grown, and the variable g holds vs -/
structure Mod (g : Nat) (T : TypeId) (vs : List Value) (w w' : World) : Prop where
  os : w'.os = w.os
  tape : w'.tape = w.tape
  output : w'.output = w.output
  size : w.heap.size ≤ w'.heap.size
  keep : ∀ b, b < w.heap.size → b ≠ g → w'.heap[b]? = w.heap[b]?
  var : w'.heap[g]? = some (.cells (fl vs).toArray T (0, 0))
  good : Good vs
theorem St.mod {g : Nat} {T : TypeId} {vs vs' : List Value} {m' : List Piece} {w' : World} (hS : St s ok m w) (hu : Upd m (.var g T vs) (.var g T vs') m') (hM : Mod g T vs' w w') : St s ok m' w' ∧ Stp ok w ok w' := by
  obtain ⟨pre, post, rfl, rfl⟩ := hu.parts
  have hpm : Piece.var g T vs ∈ pre ++ .var g T vs :: post := by simp
  obtain ⟨hlt, hno, hold⟩ := hS.own _ hpm g rfl
  have hdis := hS.dis
  rw [List.pairwise_append, List.pairwise_cons] at hdis
  obtain ⟨d1, ⟨d2, d3⟩, d4⟩ := hdis
  have hne : ∀ q, q ∈ pre ∨ q ∈ post → ∀ g', q.blk = some g' → g' ≠ g := by
    rintro q (hq | hq) g' hg' rfl
    · exact d4 q hq (.var g' T vs) (by simp) g' hg' rfl
    · exact d2 q hq g' rfl hg'
  refine ⟨⟨hM.os.trans hS.os, hM.tape.trans hS.tape, hM.output.trans hS.output, Nat.le_trans hS.size hM.size, ?_, hS.sub, fun b hb => hS.fresh b (Nat.le_trans hM.size hb), ?_, ?_, ?_⟩, ⟨hM.size, fun b hb ho => ⟨hM.keep b hb (by rintro rfl; exact hno ho), ho⟩⟩⟩
  · intro b hb1 hb2
    rw [hM.keep b (Nat.lt_of_lt_of_le hb1 hS.size) (by
      rintro rfl
      rcases hold with hold | hold
      · omega
      · exact hb2 hold)]
    exact hS.old b hb1 hb2
  · intro q hq
    rw [List.mem_append, List.mem_cons] at hq
    have keep : ∀ q, q ∈ pre ∨ q ∈ post → q.at_ w' := fun q hq => by
      have hm' : q ∈ pre ++ .var g T vs :: post := by rcases hq with hq | hq <;> simp [hq]
      exact Piece.at_of_block (hS.at_ q hm') fun g' hg' => hM.keep g' (hS.own q hm' g' hg').1 (hne q hq g' hg')
    rcases hq with hq | rfl | hq
    · exact keep q (.inl hq)
    · exact ⟨hM.var, hM.good⟩
    · exact keep q (.inr hq)
  · intro q hq g' hg'
    rw [List.mem_append, List.mem_cons] at hq
    rcases hq with hq | rfl | hq
    · obtain ⟨a, b, c⟩ := hS.own q (by simp [hq]) g' hg'
      exact ⟨Nat.lt_of_lt_of_le a hM.size, b, c⟩
    · injection hg' with hg'
      subst hg'
      exact ⟨Nat.lt_of_lt_of_le hlt hM.size, hno, hold⟩
    · obtain ⟨a, b, c⟩ := hS.own q (by simp [hq]) g' hg'
      exact ⟨Nat.lt_of_lt_of_le a hM.size, b, c⟩
  · rw [List.pairwise_append, List.pairwise_cons]
    exact ⟨d1, ⟨fun q hq g' hg' => d2 q hq g' hg', d3⟩, fun q hq r hr g' hg' => by
      rcases List.mem_cons.1 hr with rfl | hr
      · intro e
        injection e with e
        exact hne q (.inl hq) g' hg' e.symm
      · exact d4 q hq r (by simp [hr]) g' hg'⟩
theorem St.startM {g : Nat} {T : TypeId} {vs : List Value} {w : World} (ok : Nat → Prop) (hf : ∀ b, w.heap.size ≤ b → ok b) (hb : w.heap[g]? = some (.cells (fl vs).toArray T (0, 0))) (hg : Good vs) (hno : ¬ ok g) :
    St ⟨w, ok, (· = g)⟩ ok [.var g T vs] w :=
  ⟨rfl, rfl, rfl, Nat.le_refl _, fun _ _ _ => rfl, fun _ h => h, hf, by simp; exact ⟨hb, hg⟩, fun p hp g' hg' => by
    simp at hp
    subst hp
    injection hg' with hg'
    subst hg'
    exact ⟨by
      rcases Nat.lt_or_ge g w.heap.size with h | h
      · exact h
      · simp [Array.getElem?_eq_none h] at hb, hno, .inr rfl⟩, by simp⟩
theorem St.outM {w0 : World} {ok0 : Nat → Prop} {g : Nat} {T : TypeId} {vs : List Value} (h : St ⟨w0, ok0, (· = g)⟩ ok m w) (hm : Has m (.var g T vs)) : Mod g T vs w0 w :=
  ⟨h.os, h.tape, h.output, h.size, fun b hb hne => h.old b hb hne, (h.at_ _ hm.mem).1, (h.at_ _ hm.mem).2⟩
theorem wl_callM {f : FuncId} [hf : FnB P f] {xs : List Operand} {ts : Array TypeId} {vs : List Value} {g : Nat} {T : TypeId} {us us' : List Value} {m' : List Piece} {R : Value → Prop} (hS : St s ok m w) (hx : evs e xs = some vs)
    (hu : Upd m (.var g T us) (.var g T us') m') (hc : Ret P f vs w fun v w' => R v ∧ Mod g T us' w w') (hd : Nat.blt d N = true)
    (h : ∀ v w', R v → St s ok m' w' → Stp ok w ok w' → WL P N ops Q rest ((d, v) :: e) w') : WL P N ops Q (⟨some d, .call ⟨.value (.func f), xs.toArray, ts⟩, ty, pos, af, none⟩ :: rest) e w :=
  wl_call hx hc hd fun v w' ⟨hR, hM⟩ => h v w' hR (hS.mod hu hM).1 (hS.mod hu hM).2
/-- a call whose value is dropped -/
theorem wl_callN {f : FuncId} [hf : FnB P f] {xs : List Operand} {ts : Array TypeId} {vs : List Value} {R : Value → World → Prop} (hx : evs e xs = some vs)
    (hc : Ret P f vs w R)
    (h : ∀ v w', R v w' → WL P N ops Q rest e w') : WL P N ops Q (⟨none, .call ⟨.value (.func f), xs.toArray, ts⟩, ty, pos, af, none⟩ :: rest) e w := by
  unfold WL
  intro a ha
  refine wpList_plain rfl fun K hK => by
    have hrun : (execOp a.eval ⟨none, .call ⟨.value (.func f), xs.toArray, ts⟩, ty, pos, af, none⟩).run P w = .ok (.enter f vs.toArray) w := by
      have hev : a.eval (.func f) = .func (.func f) #[] #[] := rfl
      simp [execOp, resolve, ha.evals hx, hev, Deferred.ofValue, invoke, hf.run]
    unfold Oper.wp
    rw [hrun]
    unfold Ret at hc
    exact Calls.mono hc fun x w' hxx => by
      obtain ⟨v, rfl, hR⟩ := hxx
      exact hK _ _ ((h v w' hR).run ha)
/-- data of the beginning are still there -/
theorem St.keepRg (hS : St s ok m w) {b o : Nat} {cs : List Value} (h : Rg s.w b o cs) (hb : ¬ s.md b) : Rg w b o cs := by
  obtain ⟨C, T, fr, hh, he⟩ := h
  exact ⟨C, T, fr, by rw [hS.old b (by
    rcases Nat.lt_or_ge b s.w.heap.size with h | h
    · exact h
    · simp [Array.getElem?_eq_none h] at hh) hb]; exact hh, he⟩
/-- an element of a global array of one-cell parts -/
theorem wl_loadG {T : TypeId} [t : Ty P T false 1] {x : Operand} {b o : Nat} {cs : List Value} {v : Value} (hx : ev e x = some (.pointer (some ⟨b, o, none⟩))) (hr : Rg w b 0 cs) (hu : Units cs)
    (hv : cs[o]? = some v) (hd : Nat.blt d N = true) (h : WL P N ops Q rest ((d, v) :: e) w) : WL P N ops Q (⟨some d, .load T x, ty, pos, af, none⟩ :: rest) e w := by
  have hva := hu v (List.mem_of_getElem? hv)
  have hr' := hr.sub o 1
  have hlt : o < cs.length := (List.getElem?_eq_some_iff.1 hv).1
  rw [Nat.zero_add, show (cs.drop o).take 1 = [v] by rw [List.drop_eq_getElem_cons hlt, List.take_succ_cons, List.take_zero]; simp [(List.getElem?_eq_some_iff.1 hv).2]] at hr'
  have hc := Units.cells hva
  exact wl_loadP hx (run_loadVar_rg t (v := v) (by rw [hc]; exact hr') (by rw [hc]; rfl) (by simp) (fun _ => hc)) hd h

/-! numbers of 32 bits -/
end
def w32v (x : W32) : Value := .int .u32 (x.toNat : Int)
theorem w32v_unit (x : W32) : isAggV (w32v x) = false := rfl
theorem w32v_good (x : W32) : Good [w32v x] := by
  intro v hv
  simp [fl, w32v, Value.cells] at hv
  subst hv
  rfl
theorem u8v_unit (x : UInt8) : isAggV (u8v x) = false := rfl
theorem u8v_good (x : UInt8) : Good [u8v x] := by
  intro v hv
  simp [fl, u8v, Value.cells] at hv
  subst hv
  rfl
theorem wrap_u32 (n : Nat) : IntKind.u32.wrap (n : Int) = ((BitVec.ofNat 32 n).toNat : Int) := by
  rw [IntKind.wrap_u32, BitVec.toNat_ofNat]
  omega
theorem ofInt_nat (x : W32) : BitVec.ofInt IntKind.u32.bits (x.toNat : Int) = x := by
  show BitVec.ofInt 32 _ = x
  rw [BitVec.ofInt_natCast]
  simp
section
variable {P : Program} {N : Nat} {ops : Array Oper} {Q : Exit → Act → World → Prop} {rest : List Oper} {e : Env} {w w' : World} {d : Nat} {ty : TypeId} {pos : String} {af : Array Edge} {s : Base} {ok : Nat → Prop} {m : List Piece}
def bit32 : BinOp → W32 → W32 → Option W32
  | .and, a, b => some (a &&& b)
  | .or, a, b => some (a ||| b)
  | .xor, a, b => some (a ^^^ b)
  | _, _, _ => none
theorem wl_bit32 {op : BinOp} {T yT : TypeId} {x y : Operand} {a b c : W32} (hx : ev e x = some (w32v a)) (hy : ev e y = some (w32v b)) (hc : bit32 op a b = some c) (hd : Nat.blt d N = true)
    (h : WL P N ops Q rest ((d, w32v c) :: e) w) : WL P N ops Q (⟨some d, .binOp op T x y yT, ty, pos, af, none⟩ :: rest) e w := by
  have hb : ∀ z : W32, IntKind.u32.wrap (z.toNat : Int) = (z.toNat : Int) := fun z => by
    rw [wrap_u32]; simp
  have key : ∀ w, (binOp op T (w32v a) (w32v b)).run P w = .ok (w32v c) w := fun w => by
    cases op <;> (first | (cases hc; done) | (injection hc with hc; subst hc; simp only [binOp, w32v, Op.intBits, ofInt_nat, ne_eq, not_true, if_false]; exact congrArg (fun n => Result.ok (Value.int IntKind.u32 n) w) (hb _)))
  exact wl_val (run_bin hx hy (key w)) hd h
theorem wl_add32 {T yT : TypeId} {x y : Operand} {a b : W32} (hx : ev e x = some (w32v a)) (hy : ev e y = some (w32v b)) (hd : Nat.blt d N = true)
    (h : WL P N ops Q rest ((d, w32v (a + b)) :: e) w) : WL P N ops Q (⟨some d, .binOp .add T x y yT, ty, pos, af, none⟩ :: rest) e w := by
  refine wl_arith hx hy rfl hd ?_
  have : IntKind.u32.wrap ((a.toNat : Int) + (b.toNat : Int)) = ((a + b).toNat : Int) := by
    rw [← Int.natCast_add, wrap_u32, BitVec.ofNat_add]
    simp
  rw [this]
  exact h
theorem wl_shr32 {T yT : TypeId} {yk : IntKind} {x y : Operand} {a : W32} {b : Int} (n : Nat) (hx : ev e x = some (w32v a)) (hy : ev e y = some (.int yk b)) (hb : b = (n : Int)) (hn : n < 32) (hd : Nat.blt d N = true)
    (h : WL P N ops Q rest ((d, w32v (a >>> n)) :: e) w) : WL P N ops Q (⟨some d, .binOp .shr T x y yT, ty, pos, af, none⟩ :: rest) e w := by
  refine wl_shr n (2 ^ n) hx hy hb (by rw [show min n IntKind.u32.bits = n by show min n 32 = n; omega]) hd ?_
  have : (a.toNat : Int) / 2 ^ n = ((a >>> n).toNat : Int) := by
    rw [BitVec.toNat_ushiftRight, Nat.shiftRight_eq_div_pow]
    simp
  rw [this]
  exact h
theorem wl_shl32 {T yT : TypeId} {yk : IntKind} {x y : Operand} {a : W32} {b : Int} (n : Nat) (hx : ev e x = some (w32v a)) (hy : ev e y = some (.int yk b)) (hb : b = (n : Int)) (hn : n < 32) (hd : Nat.blt d N = true)
    (h : WL P N ops Q rest ((d, w32v (a <<< n)) :: e) w) : WL P N ops Q (⟨some d, .binOp .shl T x y yT, ty, pos, af, none⟩ :: rest) e w := by
  have e1 : IntKind.u32.wrap ((a.toNat : Int) * 2 ^ n) = ((a <<< n).toNat : Int) := by
    rw [show (a.toNat : Int) * 2 ^ n = ((a.toNat * 2 ^ n : Nat) : Int) by simp, wrap_u32, BitVec.toNat_shiftLeft, Nat.shiftLeft_eq, BitVec.toNat_ofNat]
  exact wl_shift hx hy (fun w => by
    subst hb
    have h0 : ¬ ((n : Int) < 0) := by omega
    have h1 : min n IntKind.u32.bits = n := by show min n 32 = n; omega
    simp only [Op.shift, h0, if_false, Int.toNat_natCast, h1, e1]
    rfl) (.inl rfl) hd h

/-- a new variable that a call has made -/
structure New (g : Nat) (T : TypeId) (vs : List Value) (w w' : World) : Prop where
  new : w.heap.size ≤ g
  var : w'.heap[g]? = some (.cells (fl vs).toArray T (0, 0))
  good : Good vs
  ext : Ext w w'
theorem St.newOf (hS : St s ok m w) {g : Nat} {T : TypeId} {vs : List Value} (hN : New g T vs w w') :
    St s (fun b => ok b ∧ b ≠ g) (.var g T vs :: m) w' ∧ Ex ok w (fun b => ok b ∧ b ≠ g) w' := by
  have he := hS.ext hN.ext
  have hlt : g < w'.heap.size := by
    rcases Nat.lt_or_ge g w'.heap.size with h | h
    · exact h
    · have := hN.var
      simp [Array.getElem?_eq_none h] at this
  refine ⟨⟨he.os, he.tape, he.output, he.size, he.old, fun b hb => hS.sub b hb.1, fun b hb => ⟨he.fresh b hb, by omega⟩, ?_, ?_, ?_⟩, ⟨hN.ext, fun _ hb => hb.1, fun b hb ho => ⟨ho, by have := hN.new; omega⟩⟩⟩
  · intro p hp
    rcases List.mem_cons.1 hp with rfl | hp
    · exact ⟨hN.var, hN.good⟩
    · exact he.at_ p hp
  · intro p hp g' hg
    rcases List.mem_cons.1 hp with rfl | hp
    · injection hg with hg
      subst hg
      exact ⟨hlt, fun hh => hh.2 rfl, .inl (Nat.le_trans hS.size hN.new)⟩
    · obtain ⟨a, b, c⟩ := he.own p hp g' hg
      exact ⟨a, fun hh => b hh.1, c⟩
  · refine List.pairwise_cons.2 ⟨fun q hq g' hg hq' => ?_, hS.dis⟩
    injection hg with hg
    subst hg
    have := (hS.own q hq _ hq').1
    have := hN.new
    omega
theorem New.of {ok0 : Nat → Prop} {g : Nat} {T : TypeId} {vs : List Value} (h : St ⟨w, ok0, fun _ => False⟩ ok m w') (hm : Has m (.var g T vs)) (hg : w.heap.size ≤ g) : New g T vs w w' :=
  ⟨hg, (h.at_ _ hm.mem).1, (h.at_ _ hm.mem).2, h.out⟩

theorem wl_conv32 {S D : TypeId} {a : Bool} {kz : Nat} [Ty P S a kz] [t : TyI P D .u32] {x : Operand} {b : UInt8} (hx : ev e x = some (u8v b)) (hd : Nat.blt d N = true)
    (h : WL P N ops Q rest ((d, w32v (b32 b)) :: e) w) : WL P N ops Q (⟨some d, .convert S D x, ty, pos, af, none⟩ :: rest) e w := by
  refine wl_convI' (k' := .u32) hx hd ?_
  have : Value.int .u32 (IntKind.u32.wrap (b.toNat : Int)) = w32v (b32 b) := by rw [wrap_u32]; rfl
  rw [this]
  exact h
/-- an element's place in an array: the index is a number -/
theorem wl_idxC {T E : TypeId} {n k : Nat} [t : TyA P T n E k] {x ix : Operand} {kd : IntKind} {g o : Nat} {i : Int} (hx : ev e x = some (.pointer (some ⟨g, o, none⟩))) (hi : ev e ix = some (.int kd i)) (hj : i = Int.ofNat i.toNat) (hlt : Nat.blt i.toNat n = true) (hd : Nat.blt d N = true)
    (h : WL P N ops Q rest ((d, .pointer (some ⟨g, o + i.toNat * k, none⟩)) :: e) w) : WL P N ops Q (⟨some d, .indexAddr T x ix, ty, pos, af, none⟩ :: rest) e w :=
  wl_idxA i.toNat hx hi hj (Nat.le_of_ble_eq_true hlt) hd h

/-- an element's place in a slice that is not nil -/
theorem wl_idxP {S E : TypeId} {k bS : Nat} [t : TyL P S E k bS] {x ix : Operand} {kd : IntKind} {i : Int} {b o n c : Nat} (j : Nat) (hx : ev e x = some (.slice (some ⟨b, o, none⟩) n c)) (hi : ev e ix = some (.int kd i)) (hj : i = (j : Int)) (hlt : j < n) (hd : Nat.blt d N = true)
    (h : WL P N ops Q rest ((d, .pointer (some ⟨b, o + j * k, none⟩)) :: e) w) : WL P N ops Q (⟨some d, .indexAddr S x ix, ty, pos, af, none⟩ :: rest) e w := by
  subst hj
  have hin : (0 : Int) ≤ (j : Int) ∧ (j : Int) < (n : Nat) := by omega
  exact wl_val (fun B hB => by
    simp only [execOp, hB.eval hx, hB.eval hi, Instr.indexAt, asIntOf, Sem.run_bind, Sem.run_pure, Result.andThen_ok, run_underlying t.out, hin, and_self, if_true, run_sizeOf t.size, Int.toNat_natCast, add_mid]) hd h

/-- copy of a text into a variable of bytes -/
theorem wl_copyS {T E T2 : TypeId} {b : Nat} [t : TyL P T E 1 b] {x y : Operand} {g o n c : Nat} {T0 : TypeId} {vs : List Value} {a : Bs} {m' : List Piece} (hS : St s ok m w) (hx : ev e x = some (.slice (some ⟨g, o, none⟩) n c)) (hy : ev e y = some (sv a))
    (hu : Upd m (.var g T0 vs) (.var g T0 (vs.take o ++ (a.take n).map u8v ++ vs.drop (o + (a.take n).length))) m') (hus : Units vs) (ho : o + n ≤ vs.length) (hd : Nat.blt d N = true)
    (h : ∀ w', St s ok m' w' → Stp ok w ok w' → WL P N ops Q rest ((d, .int .i64 ((a.take n).length : Nat)) :: e) w') : WL P N ops Q (⟨some d, .call ⟨.builtin .copy, #[x, y], #[T, T2]⟩, ty, pos, af, none⟩ :: rest) e w := by
  obtain ⟨pre, post, rfl, rfl⟩ := hu.parts
  obtain ⟨hb, hg⟩ := hS.at_ (.var g T0 vs) (by simp)
  have hua : Units ((a.take n).map u8v) := Units.map u8v_unit _
  have hga : Good ((a.take n).map u8v) := Good.map u8v_good _
  have hcl : ((a.take n).map u8v).length = (a.take n).length := by simp
  have hkn : (a.take n).length = Nat.min a.length n := by rw [List.length_take, Nat.min_comm]
  have hle : (a.take n).length ≤ n := by rw [List.length_take]; omega
  have hrun := run_storeCells_at (P := P) g o T0 ((a.take n).map u8v) 0 (fl vs).toArray w hb (by rw [hus.fl, hcl]; simp only [List.size_toArray]; omega) (fun v hv => hga v (by rw [hua.fl]; exact hv))
  rw [hus.fl, hcl] at hrun
  simp only [Nat.add_zero] at hrun
  have hun : Units (vs.take o ++ (a.take n).map u8v ++ vs.drop (o + (a.take n).length)) := ((hus.sub fun x hx => List.mem_of_mem_take hx).append hua).append (hus.sub fun x hx => List.mem_of_mem_drop hx)
  have hgd : Good (vs.take o ++ (a.take n).map u8v ++ vs.drop (o + (a.take n).length)) := ((hg.of_sub fun x hx => List.mem_of_mem_take hx).append hga).append (hg.of_sub fun x hx => List.mem_of_mem_drop hx)
  have hcells : (((⟨a.toArray⟩ : ByteArray).extract 0 (Nat.min a.length n)).data.map fun b => Value.int .u8 (b.toNat : Int)).toList = (a.take n).map u8v := by
    rw [ByteArray.data_extract, Array.toList_map]
    have : (a.toArray.extract 0 (Nat.min a.length n)).toList = a.take n := by
      simp only [Array.toList_extract, List.extract, List.drop_zero, Nat.sub_zero]
      rw [← hkn]
      simp
    rw [this]
    rfl
  generalize hw : vs.take o ++ (a.take n).map u8v ++ vs.drop (o + (a.take n).length) = vs' at *
  obtain ⟨hS', hE⟩ := hS.write (p := .var g T0 vs) (p' := .var g T0 vs') (w' := w.setRow g vs'.toArray) ⟨by rw [hun.fl]; exact setRow_heap w g _ _ T0 (0, 0) hb, hgd⟩ rfl rfl (by simp) rfl rfl rfl (fun b hne => setRow_other w g b _ hne)
  refine wl_val (fun B hB => ?_) hd (h _ hS' hE)
  simp only [execOp, resolve, invoke, builtin, hB.eval hx, hB.eval hy, Builtin.copy_, List.map_toArray, List.map_cons, List.map_nil]
  simp [run_underlying t.out, Builtin.lenOf, run_sizeOf t.size, Builtin.firstCells, size_sv]
  have e5 : List.take (Nat.min a.length n) (List.map (fun b : UInt8 => Value.int .u8 (b.toNat : Int)) a) = (a.take n).map u8v := by
    rw [← List.map_take]
    show (a.take (min a.length n)).map u8v = _
    rw [Nat.min_comm, ← List.take_take, List.take_length]
  have e6 : (Nat.min a.length n : Nat) = min n a.length := Nat.min_comm _ _
  rw [e5, hrun, e6]
  rfl
theorem St.varAt (hS : St s ok m w) {g : Nat} {T : TypeId} {vs : List Value} (hm : Has m (.var g T vs)) : w.heap[g]? = some (.cells (fl vs).toArray T (0, 0)) := (hS.at_ _ hm.mem).1
/-- the same cells under other parts -/
theorem St.reseg (hS : St s ok m w) {g : Nat} {T : TypeId} {vs vs' : List Value} {m' : List Piece} (hu : Upd m (.var g T vs) (.var g T vs') m') (he : fl vs = fl vs') : St s ok m' w := by
  obtain ⟨pre, post, rfl, rfl⟩ := hu.parts
  have hd := hS.dis
  refine ⟨hS.os, hS.tape, hS.output, hS.size, hS.old, hS.sub, hS.fresh, ?_, ?_, ?_⟩
  · intro p hp
    rcases List.mem_append.1 hp with hp | hp
    · exact hS.at_ p (by simp [hp])
    · rcases List.mem_cons.1 hp with rfl | hp
      · obtain ⟨h1, h2⟩ := hS.at_ (.var g T vs) (by simp)
        refine ⟨by rw [← he]; exact h1, ?_⟩
        unfold Good
        rw [← he]
        exact h2
      · exact hS.at_ p (by simp [hp])
  · intro p hp g' hg'
    rcases List.mem_append.1 hp with hp | hp
    · exact hS.own p (by simp [hp]) g' hg'
    · rcases List.mem_cons.1 hp with rfl | hp
      · exact hS.own (.var g T vs) (by simp) g' hg'
      · exact hS.own p (by simp [hp]) g' hg'
  · rw [List.pairwise_append, List.pairwise_cons] at hd ⊢
    obtain ⟨d1, ⟨d2, d3⟩, d4⟩ := hd
    refine ⟨d1, ⟨fun q hq g' hg' => d2 q hq g' hg', d3⟩, fun q hq r hr => ?_⟩
    rcases List.mem_cons.1 hr with rfl | hr
    · exact d4 q hq (.var g T vs) (by simp)
    · exact d4 q hq r (by simp [hr])
theorem Late.sl {m0 : List Piece} {ok0 : Nat → Prop} {w0 : World} {E : TypeId} {k : Nat} {v : Value} {vs : List Value} (h : Late s m0 ok0 w0 (fun v ok w => Sl ok w E k v vs) v ok w) : Sl ok w E k v vs := by
  obtain ⟨_, _, h1, _, _, h4⟩ := h
  exact h1.stp h4.stp
theorem St.keepSl (hS : St s ok m w) {ok0 : Nat → Prop} {E : TypeId} {k : Nat} {v : Value} {vs : List Value} (h : Sl ok0 s.w E k v vs) (hb : ∀ b, ok0 b → ¬ s.md b) : Sl ok0 w E k v vs := by
  obtain ⟨h1, h2, A, c, hv, hc, hm, hr⟩ := h
  refine ⟨h1, h2, A, c, hv, hc, hm, fun hn => ?_⟩
  obtain ⟨b, o, hA, ho, e, hg⟩ := hr hn
  exact ⟨b, o, hA, ho, e, hS.keepRg hg (hb b ho)⟩
theorem Sl.ext {ok0 : Nat → Prop} {E : TypeId} {k : Nat} {v : Value} {vs : List Value} (h : Sl ok0 w E k v vs) (e : Ext w w') : Sl ok0 w' E k v vs := by
  obtain ⟨h1, h2, A, c, hv, hc, hm, hr⟩ := h
  refine ⟨h1, h2, A, c, hv, hc, hm, fun hn => ?_⟩
  obtain ⟨b, o, hA, ho, e', hg⟩ := hr hn
  exact ⟨b, o, hA, ho, e', hg.ext e⟩
theorem Late.slX {m0 : List Piece} {ok0 okd : Nat → Prop} {w0 : World} {E : TypeId} {k : Nat} {v : Value} {vs : List Value} (h : Late s m0 ok0 w0 (fun v _ w => Sl okd w E k v vs) v ok w) : Sl okd w E k v vs := by
  obtain ⟨_, _, h1, _, _, h4⟩ := h
  exact h1.ext h4.ext
end
end Tw

namespace Tw
open Go Go.RowKit
structure Wk (p : Prop) : Prop where
  o : p
theorem wk {G G' : Prop} (h : G') (i : Wk G' → G := by
  intro h
  first
  | (apply wl_move; exact rfl; exact rfl; exact h.o)
  | (apply wl_assign; exact rfl; exact rfl; exact h.o)
  | (apply wc_seq; exact h.o)
  | (apply wc_region; exact h.o)
  | (apply wc_scope; exact h.o)
  | (apply wc_label; exact h.o)
  | (apply we_noGoto; exact h.o)
  | (apply we_noGotoR; exact h.o)
  | (apply we_noGotoX; exact h.o)
  | (apply wl_nil; exact h.o)
  | (apply we_thenC; exact h.o)
  | (apply wc_block; exact h.o)
  | (apply wc_exit; exact h.o)
  | (apply wc_ret; exact h.o)
  | (apply wc_skip; exact h.o)
  | (apply we_thenX; exact h.o)
  | (apply we_thenR; exact h.o)
  | (apply we_block; exact h.o)
  | (apply we_blockR; exact h.o)
  | (apply we_blockX; exact h.o)
  | (apply we_blockO; exact rfl; exact h.o)
  | (apply wl_load; assumption; exact rfl; (repeat (first | exact Has.here | apply Has.there)); exact rfl; exact rfl; exact h.o)
  | (apply wl_loadD; exact rfl; assumption; exact rfl; exact rfl; exact rfl; exact h.o)
  | (apply wl_loadF; exact rfl; assumption; exact good_all rfl; exact rfl; exact rfl; exact h.o)
  | (apply wl_cmp; exact rfl; exact rfl; exact rfl; exact rfl; exact h.o)
  | (apply wl_add32; exact rfl; exact rfl; exact rfl; exact h.o)
  | (apply wl_bit32; exact rfl; exact rfl; exact rfl; exact rfl; exact h.o)
  | (apply wl_arith64; exact rfl; exact rfl; exact rfl; omega; omega; exact rfl; exact h.o)
  | (apply wl_arith; exact rfl; exact rfl; exact rfl; exact rfl; exact h.o)
  | (apply wl_cmpS; exact rfl; exact rfl; exact rfl; exact rfl; exact h.o)
  | (apply wl_shr 8 256; exact rfl; exact rfl; exact rfl; exact rfl; exact rfl; exact h.o)
  | (apply wl_shr 16 65536; exact rfl; exact rfl; exact rfl; exact rfl; exact rfl; exact h.o)
  | (apply wl_lenS'; exact rfl; exact rfl; exact h.o)
  | (apply wl_cat; exact rfl; exact rfl; omega; exact rfl; exact h.o)
  | (apply wl_conv32; exact rfl; exact rfl; exact h.o)
  | (apply wl_convI'; exact rfl; exact rfl; exact h.o)
  | (apply wl_idxC; exact rfl; exact rfl; exact rfl; exact rfl; exact rfl; exact h.o)
  | (apply wl_fieldAddr; exact rfl; exact rfl; exact rfl; exact rfl; exact h.o)
  | (apply wl_nilCheck; exact rfl; exact rfl; exact h.o)
  | (apply wl_extract; exact rfl; exact rfl; exact rfl; exact h.o)
  | (apply wl_build; exact rfl; exact rfl; exact rfl; exact rfl; exact h.o)
  | (apply wl_buildA; exact rfl; exact rfl; exact rfl; exact h.o)
  | (apply wl_ptrN; exact rfl; exact rfl; exact rfl; exact rfl; exact h.o)
  | (apply wl_sliN; exact rfl; exact rfl; exact rfl; exact rfl; exact h.o)
  | (apply wl_pickT; exact rfl; exact rfl; exact rfl; exact h.o)
  | (apply wl_pickF; exact rfl; exact rfl; exact rfl; exact h.o)
  | (apply wl_onW; exact rfl; exact rfl; exact h.o)
  | (apply wl_off; exact rfl; exact rfl; exact rfl; exact h.o)
  | (apply wl_notD; exact rfl; exact rfl; exact h.o)
  | (apply wl_not; exact rfl; exact rfl; exact h.o)
  | (apply wl_lenL; exact rfl; exact rfl; exact h.o)
  | (apply wl_sliceA; exact rfl; exact rfl; exact h.o)
  | (apply wc_condT; exact rfl; exact h.o)
  | (apply wc_condF; exact rfl; exact h.o)) : G := i ⟨h⟩
end Tw
