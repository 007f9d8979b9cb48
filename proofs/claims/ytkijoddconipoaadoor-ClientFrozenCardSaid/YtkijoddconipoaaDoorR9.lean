/- Hashes at once; law 14: a law, walked. -/
import Derived.KernelRfl
import Derived.Test.YtkijoddconipoaaDoorP1
import Derived.Test.YtkijoddconipoaaDoorP2
import Derived.Test.YtkijoddconipoaaDoorP3
import Derived.Test.YtkijoddconipoaaDoorP4
import Derived.Test.YtkijoddconipoaaDoorQ1
import Derived.Test.YtkijoddconipoaaDoorQ2
import Derived.Test.YtkijoddconipoaaDoorK1
import Derived.Test.YtkijoddconipoaaDoorQ3
import Derived.Test.YtkijoddconipoaaDoorQ5
import Derived.Test.YtkijoddconipoaaDoorR1
import Derived.Test.YtkijoddconipoaaDoorR2
import Derived.Test.YtkijoddconipoaaDoorR3
import Derived.Test.YtkijoddconipoaaDoorR4
import Derived.Test.YtkijoddconipoaaDoorR5
import Derived.Test.YtkijoddconipoaaDoorR7
import Derived.Test.YtkijoddconipoaaDoorR6
import Derived.Test.YtkijoddconipoaaDoorR8
namespace TwS
open Tw
section
variable {ι : Type}
def pk : List W32 → Nat
  | [] => 0
  | x :: l => 2 ^ 64 * pk l + x.toNat
def msk : Nat → Nat
  | 0 => 0
  | n + 1 => 2 ^ 64 * msk n + 4294967295
def ons : Nat → Nat
  | 0 => 0
  | n + 1 => 2 ^ 64 * ons n + 1
abbrev P (ls : List ι) (f : ι → W32) : Nat := pk (ls.map f)
theorem two_bit {a x j : Nat} (h : a < 2 ^ 64) : (2 ^ 64 * x + a).testBit j = if j < 64 then a.testBit j else x.testBit (j - 64) := Nat.testBit_two_pow_mul_add x h j
theorem lt64 (x : W32) : x.toNat < 2 ^ 64 := Nat.lt_of_lt_of_le x.isLt (by decide)
theorem m_bit (j : Nat) : (4294967295 : Nat).testBit j = decide (j < 32) := by
  have := Nat.testBit_two_pow_sub_one 32 j
  simpa using this
theorem bit_ge {a j : Nat} (h : a < 2 ^ 32) (hj : 32 ≤ j) : a.testBit j = false := Nat.testBit_lt_two_pow (Nat.lt_of_lt_of_le h (Nat.pow_le_pow_right (by decide) hj))
theorem pk_xor (ls : List ι) (f g : ι → W32) : P ls (fun i => f i ^^^ g i) = P ls f ^^^ P ls g := by
  induction ls with
  | nil => simp [P, pk]
  | cons i ls ih =>
    simp only [P, List.map_cons, pk] at ih ⊢
    rw [ih]
    apply Nat.eq_of_testBit_eq
    intro j
    rw [Nat.testBit_xor, two_bit (lt64 _), two_bit (lt64 _), two_bit (lt64 _), BitVec.toNat_xor, Nat.testBit_xor, Nat.testBit_xor]
    split <;> rfl
theorem pk_and (ls : List ι) (f g : ι → W32) : P ls (fun i => f i &&& g i) = P ls f &&& P ls g := by
  induction ls with
  | nil => simp [P, pk]
  | cons i ls ih =>
    simp only [P, List.map_cons, pk] at ih ⊢
    rw [ih]
    apply Nat.eq_of_testBit_eq
    intro j
    rw [Nat.testBit_and, two_bit (lt64 _), two_bit (lt64 _), two_bit (lt64 _), BitVec.toNat_and, Nat.testBit_and, Nat.testBit_and]
    split <;> rfl
theorem pk_or (ls : List ι) (f g : ι → W32) : P ls (fun i => f i ||| g i) = P ls f ||| P ls g := by
  induction ls with
  | nil => simp [P, pk]
  | cons i ls ih =>
    simp only [P, List.map_cons, pk] at ih ⊢
    rw [ih]
    apply Nat.eq_of_testBit_eq
    intro j
    rw [Nat.testBit_or, two_bit (lt64 _), two_bit (lt64 _), two_bit (lt64 _), BitVec.toNat_or, Nat.testBit_or, Nat.testBit_or]
    split <;> rfl
theorem and_m {a : Nat} (h : a < 2 ^ 32) : a &&& 4294967295 = a := by
  rw [show (4294967295 : Nat) = 2 ^ 32 - 1 from rfl, Nat.and_two_pow_sub_one_eq_mod, Nat.mod_eq_of_lt h]
theorem pk_add (ls : List ι) (f g : ι → W32) : P ls (fun i => f i + g i) = (P ls f + P ls g) &&& msk ls.length := by
  induction ls with
  | nil => simp [P, pk, msk]
  | cons i ls ih =>
    simp only [P, List.map_cons, pk, List.length_cons, msk] at ih ⊢
    rw [ih]
    apply Nat.eq_of_testBit_eq
    intro j
    have h1 := (f i).isLt
    have h2 := (g i).isLt
    rw [show 2 ^ 64 * pk (List.map f ls) + (f i).toNat + (2 ^ 64 * pk (List.map g ls) + (g i).toNat) = 2 ^ 64 * (pk (List.map f ls) + pk (List.map g ls)) + ((f i).toNat + (g i).toNat) by omega]
    rw [Nat.testBit_and, two_bit (lt64 _), two_bit (show (f i).toNat + (g i).toNat < 2 ^ 64 by omega), two_bit (by decide), Nat.testBit_and, m_bit, BitVec.toNat_add, Nat.testBit_mod_two_pow]
    split
    · by_cases hj : j < 32 <;> simp [hj]
    · rfl
theorem pk_shr (n : Nat) (hn : n ≤ 32) (ls : List ι) (f : ι → W32) : P ls (fun i => f i >>> n) = (P ls f >>> n) &&& msk ls.length := by
  induction ls with
  | nil => simp [P, pk, msk]
  | cons i ls ih =>
    simp only [P, List.map_cons, pk, List.length_cons, msk] at ih ⊢
    rw [ih]
    apply Nat.eq_of_testBit_eq
    intro j
    have h1 := (f i).isLt
    rw [Nat.testBit_and, two_bit (lt64 _), Nat.testBit_shiftRight, two_bit (lt64 _), two_bit (by decide), Nat.testBit_and, m_bit, BitVec.toNat_ushiftRight, Nat.testBit_shiftRight, Nat.testBit_shiftRight]
    by_cases hj : j < 64
    · rw [if_pos hj, if_pos hj]
      by_cases hj2 : j < 32
      · rw [if_pos (by omega)]
        simp [hj2]
      · rw [bit_ge h1 (by omega)]
        simp [hj2]
    · rw [if_neg hj, if_neg hj, if_neg (by omega)]
      congr 2
      omega
theorem pk_shl (n : Nat) (hn : n ≤ 32) (ls : List ι) (f : ι → W32) : P ls (fun i => f i <<< n) = (P ls f <<< n) &&& msk ls.length := by
  induction ls with
  | nil => simp [P, pk, msk]
  | cons i ls ih =>
    simp only [P, List.map_cons, pk, List.length_cons, msk] at ih ⊢
    rw [ih]
    apply Nat.eq_of_testBit_eq
    intro j
    have h1 := (f i).isLt
    rw [Nat.testBit_and, two_bit (lt64 _), Nat.testBit_shiftLeft, two_bit (lt64 _), two_bit (by decide), Nat.testBit_and, m_bit, BitVec.toNat_shiftLeft, Nat.testBit_mod_two_pow, Nat.testBit_shiftLeft, Nat.testBit_shiftLeft]
    by_cases hj : j < 64
    · rw [if_pos hj, if_pos hj, if_pos (by omega)]
      rw [Bool.and_comm]
    · rw [if_neg hj, if_neg hj]
      by_cases h2 : j - n < 64
      · rw [if_pos h2, bit_ge h1 (by omega), show decide (j - 64 ≥ n) = false from decide_eq_false (by omega)]
        simp
      · rw [if_neg h2, show decide (j - 64 ≥ n) = true from decide_eq_true (by omega), show decide (j ≥ n) = true from decide_eq_true (by omega), show j - n - 64 = j - 64 - n by omega]
theorem pk_const (ls : List ι) (c : W32) : P ls (fun _ => c) = c.toNat * ons ls.length := by
  induction ls with
  | nil => rfl
  | cons i ls ih =>
    simp only [P, List.map_cons, pk, List.length_cons, ons] at ih ⊢
    rw [ih, Nat.mul_add, ← Nat.mul_assoc, ← Nat.mul_assoc, Nat.mul_comm c.toNat (2 ^ 64)]
    omega
def nz : Nat → Nat → Bool
  | 0, _ => true
  | n + 1, d => !(Nat.beq (d % 18446744073709551616) 0) && nz n (d / 18446744073709551616)
theorem nz_spec : ∀ (ls : List ι) (f : ι → W32), nz ls.length (P ls f) = true → ∀ i ∈ ls, f i ≠ 0
  | [], _, _ => by simp
  | i :: ls, f, h => by
    simp only [P, List.map_cons, pk, List.length_cons, nz, Bool.and_eq_true] at h
    have h1 := (f i).isLt
    have e1 : (2 ^ 64 * pk (List.map f ls) + (f i).toNat) % 18446744073709551616 = (f i).toNat := by omega
    have e2 : (2 ^ 64 * pk (List.map f ls) + (f i).toNat) / 18446744073709551616 = pk (List.map f ls) := by omega
    rw [e1, e2] at h
    intro k hk
    rcases List.mem_cons.1 hk with rfl | hk
    · intro h0
      rw [h0] at h
      exact absurd h.1 (by decide)
    · exact nz_spec ls f h.2 k hk
/-! the hash, on packed numbers -/
def fc {β : Type} (x : Nat) (k : Nat → β) : β := Nat.rec (k 0) (fun n _ => k (n + 1)) x
theorem fc_eq {β : Type} (x : Nat) (k : Nat → β) : fc x k = k x := by cases x <;> rfl
def ad (M x y : Nat) : Nat := (x + y) &&& M
def rt (M x n m : Nat) : Nat := ((x >>> n) &&& M) ||| ((x <<< m) &&& M)
def g0 (M x : Nat) : Nat := rt M x 7 25 ^^^ rt M x 18 14 ^^^ ((x >>> 3) &&& M)
def g1 (M x : Nat) : Nat := rt M x 17 15 ^^^ rt M x 19 13 ^^^ ((x >>> 10) &&& M)
def b1 (M e : Nat) : Nat := rt M e 6 26 ^^^ rt M e 11 21 ^^^ rt M e 25 7
def b0 (M a : Nat) : Nat := rt M a 2 30 ^^^ rt M a 13 19 ^^^ rt M a 22 10
def sGo (M O : Nat) : List W32 → List Nat → Nat → Nat → Nat → Nat → Nat → Nat → Nat → Nat → List Nat
  | [], _, a, b, c, d, e, f, g, h => [a, b, c, d, e, f, g, h]
  | k :: ks, w, a, b, c, d, e, f, g, h =>
    fc (ad M (ad M (ad M (w.getD 0 0) (g0 M (w.getD 1 0))) (w.getD 9 0)) (g1 M (w.getD 14 0))) fun nw =>
    fc (ad M (ad M (ad M (ad M h (b1 M e)) (g ^^^ (e &&& (f ^^^ g)))) (k.toNat * O)) (w.getD 0 0)) fun t =>
    fc (ad M (ad M t (b0 M a)) ((a &&& b) ||| (c &&& (a ||| b)))) fun a' =>
    fc (ad M d t) fun e' =>
    sGo M O ks (w.drop 1 ++ [nw]) a' a b c e' e f g
def sCom (M O : Nat) (w x : List Nat) : List Nat :=
  List.zipWith (ad M) x (sGo M O kTab w (x.getD 0 0) (x.getD 1 0) (x.getD 2 0) (x.getD 3 0) (x.getD 4 0) (x.getD 5 0) (x.getD 6 0) (x.getD 7 0))
/-- the words of a block, all of them -/
def wx (blk : Bs) (k : Nat) : W32 := if k < 16 then wordAt blk k else nextW (ws blk k) k
theorem ws_eq (blk : Bs) : ∀ k, ws blk k = (List.range k).map (wx blk)
  | 0 => rfl
  | k + 1 => by
    rw [List.range_succ, List.map_append, ← ws_eq blk k]
    rfl
theorem ws_get (blk : Bs) {i k : Nat} (h : i < k) : (ws blk k).getD i 0 = wx blk i := by
  rw [ws_eq]
  simp [List.getD, h]
theorem wx_next (blk : Bs) (t : Nat) : wx blk (t + 16) = wx blk t + sig0 (wx blk (t + 1)) + wx blk (t + 9) + sig1 (wx blk (t + 14)) := by
  rw [wx, if_neg (by omega), nextW, ws_get blk (show t + 16 - 16 < t + 16 by omega), ws_get blk (show t + 16 - 15 < t + 16 by omega), ws_get blk (show t + 16 - 7 < t + 16 by omega), ws_get blk (show t + 16 - 2 < t + 16 by omega)]
  rfl
variable (ls : List ι)
theorem pk_rot (f : ι → W32) (n m : Nat) (hn : n ≤ 32) (hm : m = 32 - n) : P ls (fun i => rotr (f i) n) = rt (msk ls.length) (P ls f) n m := by
  subst hm
  unfold rotr rt
  rw [pk_or, pk_shr n hn, pk_shl (32 - n) (by omega)]
theorem pk_g0 (f : ι → W32) : P ls (fun i => sig0 (f i)) = g0 (msk ls.length) (P ls f) := by
  unfold sig0 g0
  rw [pk_xor, pk_xor, pk_rot ls f 7 25 (by decide) rfl, pk_rot ls f 18 14 (by decide) rfl, pk_shr 3 (by decide)]
theorem pk_g1 (f : ι → W32) : P ls (fun i => sig1 (f i)) = g1 (msk ls.length) (P ls f) := by
  unfold sig1 g1
  rw [pk_xor, pk_xor, pk_rot ls f 17 15 (by decide) rfl, pk_rot ls f 19 13 (by decide) rfl, pk_shr 10 (by decide)]
theorem pk_b1 (f : ι → W32) : P ls (fun i => rotr (f i) 6 ^^^ rotr (f i) 11 ^^^ rotr (f i) 25) = b1 (msk ls.length) (P ls f) := by
  unfold b1
  rw [pk_xor, pk_xor, pk_rot ls f 6 26 (by decide) rfl, pk_rot ls f 11 21 (by decide) rfl, pk_rot ls f 25 7 (by decide) rfl]
theorem pk_b0 (f : ι → W32) : P ls (fun i => rotr (f i) 2 ^^^ rotr (f i) 13 ^^^ rotr (f i) 22) = b0 (msk ls.length) (P ls f) := by
  unfold b0
  rw [pk_xor, pk_xor, pk_rot ls f 2 30 (by decide) rfl, pk_rot ls f 13 19 (by decide) rfl, pk_rot ls f 22 10 (by decide) rfl]
def wn (blk : ι → Bs) (t : Nat) : List Nat := (List.range 16).map fun j => P ls fun i => wx (blk i) (t + j)
theorem wn_get (blk : ι → Bs) (t j : Nat) (h : j < 16) : (wn ls blk t).getD j 0 = P ls fun i => wx (blk i) (t + j) := by
  simp [wn, List.getD, h]
theorem wn_next (blk : ι → Bs) (t : Nat) : (wn ls blk t).drop 1 ++ [P ls fun i => wx (blk i) (t + 16)] = wn ls blk (t + 1) := by
  simp only [wn, List.range, List.range.loop, List.map_cons, List.map_nil, List.drop_succ_cons, List.drop_zero, List.cons_append, List.nil_append]
def words8 (y : ι → H8) : List Nat := [P ls fun i => (y i).a, P ls fun i => (y i).b, P ls fun i => (y i).c, P ls fun i => (y i).d, P ls fun i => (y i).e, P ls fun i => (y i).f, P ls fun i => (y i).g, P ls fun i => (y i).h]
theorem sGo_spec (blk : ι → Bs) (x : ι → H8) : ∀ (ks : List W32) (t : Nat), ks = kTab.drop t → t + ks.length = 64 →
    sGo (msk ls.length) (ons ls.length) ks (wn ls blk t) (P ls fun i => (roundsTo (blk i) (x i) t).a) (P ls fun i => (roundsTo (blk i) (x i) t).b) (P ls fun i => (roundsTo (blk i) (x i) t).c) (P ls fun i => (roundsTo (blk i) (x i) t).d) (P ls fun i => (roundsTo (blk i) (x i) t).e) (P ls fun i => (roundsTo (blk i) (x i) t).f) (P ls fun i => (roundsTo (blk i) (x i) t).g) (P ls fun i => (roundsTo (blk i) (x i) t).h)
      = words8 ls fun i => roundsTo (blk i) (x i) 64
  | [], t, _, h2 => by
    obtain rfl : t = 64 := by simpa using h2
    rfl
  | k :: ks, t, h1, h2 => by
    have hk : kTab.getD t 0 = k := by
      have h := congrArg (fun l : List W32 => l.getD 0 0) h1
      simp only [List.getD, List.getElem?_drop, List.getElem?_cons_zero, Option.getD_some, Nat.add_zero] at h ⊢
      exact h.symm
    have hks : ks = kTab.drop (t + 1) := by
      have h := congrArg (List.drop 1) h1
      simpa [List.drop_drop] using h
    have ht : t < 64 := by rw [List.length_cons] at h2; omega
    have ih := sGo_spec blk x ks (t + 1) hks (by rw [List.length_cons] at h2; omega)
    rw [sGo, fc_eq, fc_eq, fc_eq, fc_eq]
    have e1 : ad (msk ls.length) (ad (msk ls.length) (ad (msk ls.length) ((wn ls blk t).getD 0 0) (g0 (msk ls.length) ((wn ls blk t).getD 1 0))) ((wn ls blk t).getD 9 0)) (g1 (msk ls.length) ((wn ls blk t).getD 14 0)) = P ls fun i => wx (blk i) (t + 16) := by
      rw [wn_get _ _ _ 0 (by decide), wn_get _ _ _ 1 (by decide), wn_get _ _ _ 9 (by decide), wn_get _ _ _ 14 (by decide)]
      simp only [wx_next, ad]
      rw [pk_add, pk_add, pk_add, pk_g0, pk_g1, Nat.add_zero]
    rw [e1, wn_next, wn_get _ _ _ 0 (by decide), Nat.add_zero]
    have hr : ∀ i, roundsTo (blk i) (x i) (t + 1) = round k (wx (blk i) t) (roundsTo (blk i) (x i) t) := fun i => by
      rw [roundsTo, hk, ws_get _ ht]
    simp only [hr] at ih
    rw [← ih]
    have e2 : ∀ y : ι → H8, ad (msk ls.length) (ad (msk ls.length) (ad (msk ls.length) (ad (msk ls.length) (P ls fun i => (y i).h) (b1 (msk ls.length) (P ls fun i => (y i).e))) ((P ls fun i => (y i).g) ^^^ ((P ls fun i => (y i).e) &&& ((P ls fun i => (y i).f) ^^^ (P ls fun i => (y i).g))))) (k.toNat * ons ls.length)) (P ls fun i => wx (blk i) t)
        = P ls fun i => (y i).h + (rotr (y i).e 6 ^^^ rotr (y i).e 11 ^^^ rotr (y i).e 25) + ((y i).g ^^^ (y i).e &&& ((y i).f ^^^ (y i).g)) + k + wx (blk i) t := fun y => by
      simp only [ad]
      rw [pk_add, pk_add, pk_add, pk_add, pk_b1, pk_xor, pk_and, pk_xor, pk_const]
    have e3 : ∀ (y : ι → H8) (T : ι → W32), ad (msk ls.length) (ad (msk ls.length) (P ls T) (b0 (msk ls.length) (P ls fun i => (y i).a))) (((P ls fun i => (y i).a) &&& (P ls fun i => (y i).b)) ||| ((P ls fun i => (y i).c) &&& ((P ls fun i => (y i).a) ||| (P ls fun i => (y i).b))))
        = P ls fun i => T i + (rotr (y i).a 2 ^^^ rotr (y i).a 13 ^^^ rotr (y i).a 22) + ((y i).a &&& (y i).b ||| (y i).c &&& ((y i).a ||| (y i).b)) := fun y T => by
      simp only [ad]
      rw [pk_add, pk_add, pk_b0, pk_or, pk_and, pk_and, pk_or]
    have e4 : ∀ (y : ι → H8) (T : ι → W32), ad (msk ls.length) (P ls fun i => (y i).d) (P ls T) = P ls fun i => (y i).d + T i := fun y T => (pk_add ls _ _).symm
    simp only [Nat.add_zero]
    rw [e2, e3, e4]
    rfl
theorem sCom_spec (blk : ι → Bs) (x : ι → H8) : sCom (msk ls.length) (ons ls.length) (wn ls blk 0) (words8 ls x) = words8 ls fun i => compress (x i) (blk i) := by
  have h := sGo_spec ls blk x kTab 0 rfl rfl
  simp only [roundsTo] at h
  unfold sCom
  simp only [words8, List.getD, List.getElem?_cons_zero, List.getElem?_cons_succ, Option.getD_some] at h ⊢
  rw [h]
  simp only [List.zipWith_cons_cons, List.zipWith_nil_left, ad, ← pk_add]
  rfl
end
end TwS
namespace TwS
open Tw
/-! forcing -/
def fcl {β : Type} : List Nat → (List Nat → β) → β
  | [], k => k []
  | x :: l, k => fc x fun x => fcl l fun l => k (x :: l)
theorem fcl_eq {β : Type} : ∀ (l : List Nat) (k : List Nat → β), fcl l k = k l
  | [], _ => rfl
  | x :: l, k => by rw [fcl, fc_eq, fcl_eq l]
theorem wb (x : W32) : b32 (UInt8.ofNat (x.toNat / 16777216)) <<< 24 ||| b32 (UInt8.ofNat (x.toNat / 65536)) <<< 16 ||| b32 (UInt8.ofNat (x.toNat / 256)) <<< 8 ||| b32 (UInt8.ofNat x.toNat) = x := by
  apply BitVec.eq_of_getLsbD_eq
  intro i hi
  have key : ∀ n k j : Nat, (b32 (UInt8.ofNat (n / 2 ^ k))).getLsbD j = (decide (j < 8) && n.testBit (j + k)) := fun n k j => by
    unfold b32
    rw [BitVec.getLsbD_ofNat, UInt8.toNat_ofNat', Nat.testBit_mod_two_pow, Nat.testBit_div_two_pow]
    by_cases h : j < 8
    · have h32 : j < 32 := by omega
      simp [h, h32]
    · simp [h]
  have k0 := key x.toNat 0
  simp only [Nat.pow_zero, Nat.div_one] at k0
  simp only [BitVec.getLsbD_or, BitVec.getLsbD_shiftLeft, key x.toNat 24, show (16777216 : Nat) = 2 ^ 24 from rfl, show (65536 : Nat) = 2 ^ 16 from rfl, show (256 : Nat) = 2 ^ 8 from rfl, key x.toNat 16, key x.toNat 8, k0]
  rw [BitVec.getLsbD]
  rcases Nat.lt_or_ge i 8 with h | h
  · simp [h, show i < 16 by omega, show i < 24 by omega, hi]
  rcases Nat.lt_or_ge i 16 with h2 | h2
  · simp [h2, show ¬ i < 8 by omega, show i < 24 by omega, hi, show i - 8 < 8 by omega, show i - 8 + 8 = i by omega]
  rcases Nat.lt_or_ge i 24 with h3 | h3
  · simp [h3, show ¬ i < 8 by omega, show ¬ i < 16 by omega, hi, show ¬ i - 8 < 8 by omega, show i - 16 < 8 by omega, show i - 16 + 16 = i by omega]
  · simp [show ¬ i < 24 by omega, show ¬ i < 8 by omega, show ¬ i < 16 by omega, hi, show ¬ i - 8 < 8 by omega, show ¬ i - 16 < 8 by omega, show i - 24 < 8 by omega, show i - 24 + 24 = i by omega]
theorem word_bytes (x : H8) (t : Bs) : ∀ j, j < 8 → wordAt (x.bytes ++ t) j = x.words.getD j 0
  | 0, _ => wb x.a
  | 1, _ => wb x.b
  | 2, _ => wb x.c
  | 3, _ => wb x.d
  | 4, _ => wb x.e
  | 5, _ => wb x.f
  | 6, _ => wb x.g
  | 7, _ => wb x.h
theorem sha_two {A s : Bs} (hA : A.length = 64) (hs : s.length ≤ 55) : sha (A ++ s) = (compress (compress h0 A) (s ++ (128 :: zeros (55 - s.length) ++ be64 (8 * (64 + s.length))))).bytes := by
  have e1 : (119 - (A ++ s).length % 64) % 64 = 55 - s.length := by rw [List.length_append, hA]; omega
  have e2 : pad (A ++ s) = A ++ (s ++ (128 :: zeros (55 - s.length) ++ be64 (8 * (64 + s.length)))) := by
    unfold pad
    rw [e1, List.length_append, hA, List.append_assoc]
  have e3 : (pad (A ++ s)).length / 64 = 2 := by
    rw [e2]
    simp [hA, zeros, be64]
    omega
  unfold sha
  rw [e3, e2, absorb, absorb, absorb, List.take_append_of_le_length (by omega), List.take_of_length_le (l := A) (by omega), List.drop_append_of_le_length (by omega), List.drop_of_length_le (l := A) (by omega), List.nil_append, List.take_of_length_le]
  simp [zeros, be64]
  omega
/-! seals of short texts, many at once -/
def tl32 : Bs := 128 :: zeros 23 ++ be64 768
def kst (O : Nat) (x : H8) : List Nat := x.words.map fun c => c.toNat * O
def tlW (O : Nat) : List Nat := [2147483648 * O, 0, 0, 0, 0, 0, 0, 768 * O]
def sealS (M O : Nat) (W : List Nat) (I X : H8) : List Nat := fcl (sCom M O W (kst O I)) fun v => sCom M O (v ++ tlW O) (kst O X)
def difS (n : Nat) (W : List Nat) (I X I' X' : H8) : Bool := fc (msk n) fun M => fc (ons n) fun O => fcl W fun W => nz n ((sealS M O W I X).getD 0 0 ^^^ (sealS M O W I' X').getD 0 0)
section
variable {ι : Type} (ls : List ι)
theorem kst_eq (x : H8) : kst (ons ls.length) x = words8 ls fun _ => x := by
  simp only [kst, H8.words, words8, pk_const, List.map_cons, List.map_nil]
theorem wn_outer (y : ι → H8) : wn ls (fun i => (y i).bytes ++ tl32) 0 = words8 ls y ++ tlW (ons ls.length) := by
  have h : ∀ j, j < 8 → (P ls fun i => wx ((y i).bytes ++ tl32) (0 + j)) = P ls fun i => (y i).words.getD j 0 := fun j hj => by
    rw [Nat.zero_add]
    congr 1
    funext i
    rw [wx, if_pos (by omega), word_bytes _ _ _ hj]
  have g : ∀ (j : Nat) (c : W32), j < 16 → (∀ x : H8, wordAt (x.bytes ++ tl32) j = c) → (P ls fun i => wx ((y i).bytes ++ tl32) (0 + j)) = c.toNat * ons ls.length := fun j c hj hc => by
    rw [Nat.zero_add, ← pk_const]
    congr 1
    funext i
    rw [wx, if_pos hj, hc]
  have z : ∀ (j : Nat), j < 16 → (∀ x : H8, wordAt (x.bytes ++ tl32) j = 0) → (P ls fun i => wx ((y i).bytes ++ tl32) (0 + j)) = 0 := fun j hj hc => by
    rw [g j 0 hj hc]
    exact Nat.zero_mul _
  simp only [wn, List.range, List.range.loop, List.map_cons, List.map_nil]
  rw [h 0 (by decide), h 1 (by decide), h 2 (by decide), h 3 (by decide), h 4 (by decide), h 5 (by decide), h 6 (by decide), h 7 (by decide),
    g 8 0x80000000 (by decide) (fun _ => (by decide : b32 128 <<< 24 ||| b32 0 <<< 16 ||| b32 0 <<< 8 ||| b32 0 = 0x80000000)), z 9 (by decide) (fun _ => (by decide : b32 0 <<< 24 ||| b32 0 <<< 16 ||| b32 0 <<< 8 ||| b32 0 = 0)), z 10 (by decide) (fun _ => (by decide : b32 0 <<< 24 ||| b32 0 <<< 16 ||| b32 0 <<< 8 ||| b32 0 = 0)), z 11 (by decide) (fun _ => (by decide : b32 0 <<< 24 ||| b32 0 <<< 16 ||| b32 0 <<< 8 ||| b32 0 = 0)), z 12 (by decide) (fun _ => (by decide : b32 0 <<< 24 ||| b32 0 <<< 16 ||| b32 0 <<< 8 ||| b32 0 = 0)), z 13 (by decide) (fun _ => (by decide : b32 0 <<< 24 ||| b32 0 <<< 16 ||| b32 0 <<< 8 ||| b32 0 = 0)), z 14 (by decide) (fun _ => (by decide : b32 0 <<< 24 ||| b32 0 <<< 16 ||| b32 0 <<< 8 ||| b32 0 = 0)), g 15 768 (by decide) (fun _ => (by decide : b32 0 <<< 24 ||| b32 0 <<< 16 ||| b32 3 <<< 8 ||| b32 0 = 768))]
  rfl
theorem sealS_spec (blk : ι → Bs) (I X : H8) : sealS (msk ls.length) (ons ls.length) (wn ls blk 0) I X = words8 ls fun i => compress X ((compress I (blk i)).bytes ++ tl32) := by
  unfold sealS
  rw [fcl_eq, kst_eq, kst_eq, sCom_spec, ← wn_outer, sCom_spec]
theorem difS_spec (blk : ι → Bs) (I X I' X' : H8) (h : difS ls.length (wn ls blk 0) I X I' X' = true) : ∀ i ∈ ls, (compress X ((compress I (blk i)).bytes ++ tl32)).bytes ≠ (compress X' ((compress I' (blk i)).bytes ++ tl32)).bytes := by
  unfold difS at h
  rw [fc_eq, fc_eq, fcl_eq, sealS_spec, sealS_spec] at h
  simp only [words8, List.getD, List.getElem?_cons_zero, Option.getD_some] at h
  rw [← pk_xor] at h
  intro i hi he
  have h1 := nz_spec ls _ h i hi
  have h2 := word_bytes (compress X ((compress I (blk i)).bytes ++ tl32)) [] 0 (by decide)
  rw [he, word_bytes _ _ _ (by decide)] at h2
  have h3 : (compress X' ((compress I' (blk i)).bytes ++ tl32)).a = (compress X ((compress I (blk i)).bytes ++ tl32)).a := h2
  rw [h3] at h1
  simp at h1
end
/-- one block's work, by the packed way -/
theorem compress_lits {x y : H8} {blk : Bs} (h : sCom (msk 1) (ons 1) ((List.range 16).map fun j => (wordAt blk j).toNat) (x.words.map (·.toNat)) = y.words.map (·.toNat)) : compress x blk = y := by
  have h1 := sCom_spec [()] (fun _ => blk) fun _ => x
  have e : ∀ c : W32, pk [c] = c.toNat := fun c => by simp [pk]
  have e1 : wn [()] (fun _ => blk) 0 = (List.range 16).map fun j => (wordAt blk j).toNat := by
    simp [wn, P, e, wx, List.range, List.range.loop]
  have e2 : ∀ x : H8, words8 [()] (fun _ => x) = x.words.map (·.toNat) := fun x => by simp [words8, P, e, H8.words]
  rw [e1, e2, e2] at h1
  have h2 := h1.symm.trans h
  have inj : ∀ a b : W32, a.toNat = b.toNat → a = b := fun a b h => BitVec.eq_of_toNat_eq h
  cases hc : compress x blk
  cases y
  rw [hc] at h2
  simp only [H8.words, List.map_cons, List.map_nil, List.cons.injEq] at h2
  obtain ⟨a, b, c, d, e, f, g, h, _⟩ := h2
  rw [inj _ _ a, inj _ _ b, inj _ _ c, inj _ _ d, inj _ _ e, inj _ _ f, inj _ _ g, inj _ _ h]
end TwS

namespace TwS
open Tw
def xb (c : UInt8) (l : Bs) : Bs := l.map (· ^^^ c)
def kyA : Bs := [107, 101, 121] ++ zeros 61
def kyB : Bs := [111, 116, 104, 101, 114] ++ zeros 59
def ai : H8 := ⟨3463233850, 1209983353, 1948250410, 931006173, 2786082441, 1688769380, 1812149899, 2195516213⟩
def ao : H8 := ⟨1038912318, 2125183980, 2145836365, 388479433, 382557374, 3463237723, 1494055132, 2848212322⟩
def bi : H8 := ⟨4170179445, 3017233956, 3845531639, 2013976098, 2813381812, 895938755, 1307096266, 1089561373⟩
def bo : H8 := ⟨2812555556, 3824779262, 3637850755, 2972524407, 3112678615, 3794667018, 831788734, 2905000641⟩
set_option maxRecDepth 100000
theorem ai_eq : compress h0 (xb 54 kyA) = ai := compress_lits (by decide +kernel)
theorem ao_eq : compress h0 (xb 92 kyA) = ao := compress_lits (by decide +kernel)
theorem bi_eq : compress h0 (xb 54 kyB) = bi := compress_lits (by decide +kernel)
theorem bo_eq : compress h0 (xb 92 kyB) = bo := compress_lits (by decide +kernel)
/-- a header's second block: chain a, height h, time and root -/
def blkF (h : UInt8) (x : UInt8 × UInt8) : Bs := if x.1 = 0 then [99, 0, 0, 1, 97, 104, 0, 0, 1, h, 116, 0, 0, 0, 114, 0, 0, 32, x.2] ++ zeros 31 ++ (128 :: zeros 5 ++ be64 912)
  else [99, 0, 0, 1, 97, 104, 0, 0, 1, h, 116, 0, 0, 1, x.1, 114, 0, 0, 32, x.2] ++ zeros 31 ++ (128 :: zeros 4 ++ be64 920)
def lanes : List (UInt8 × UInt8) := (List.range 64).flatMap fun t => [(UInt8.ofNat t, 0), (UInt8.ofNat t, 1)]
/-- the words that hang on time and root -/
def lw (j : Nat) : Nat := P lanes fun x => wordAt (blkF 0 x) j
def pkN (f : Nat → Nat → Nat) : Nat → Nat
  | 0 => 0
  | k + 1 => 2 ^ 64 * (2 ^ 64 * pkN f k + f (63 - k) 1) + f (63 - k) 0
def n3 : Nat := pkN (fun t _ => bif Nat.beq t 0 then 29184 else 65650 + t * 256) 64
def n4 : Nat := pkN (fun t r => bif Nat.beq t 0 then 2097152 + r * 256 else 8192 + r) 64
def n12 : Nat := pkN (fun t _ => bif Nat.beq t 0 then 32768 else 128) 64
def n15 : Nat := pkN (fun t _ => bif Nat.beq t 0 then 912 else 920) 64
theorem l3 : lw 3 = n3 := by decide +kernel
theorem l4 : lw 4 = n4 := by decide +kernel
theorem l12 : lw 12 = n12 := by decide +kernel
theorem l15 : lw 15 = n15 := by decide +kernel
def wF (h : Nat) : List Nat := [1660944385 * ons 128, 1634205696 * ons 128, (16806912 + 65536 * h) * ons 128, n3, n4, 0, 0, 0, 0, 0, 0, 0, n12, 0, 0, n15]
theorem blk_free (h : UInt8) (x : UInt8 × UInt8) (j : Nat) (hj : j ∈ [3, 4, 12, 15]) : wordAt (blkF h x) j = wordAt (blkF 0 x) j := by
  simp only [List.mem_cons, List.not_mem_nil, or_false] at hj
  unfold blkF
  split <;> rcases hj with rfl | rfl | rfl | rfl <;> rfl
theorem w2_nat : ∀ h : Fin 33, (b32 1 <<< 24 ||| b32 (UInt8.ofNat h.val) <<< 16 ||| b32 116 <<< 8 ||| b32 0).toNat = 16806912 + 65536 * h.val := by decide +kernel
theorem wn_blk (h : Nat) (hh : h < 33) : wn lanes (blkF (UInt8.ofNat h)) 0 = wF h := by
  have hl : lanes.length = 128 := by decide +kernel
  have c : ∀ (j : Nat) (c : W32), j < 16 → (∀ x, wordAt (blkF (UInt8.ofNat h) x) j = c) → (P lanes fun x => wx (blkF (UInt8.ofNat h) x) (0 + j)) = c.toNat * ons 128 := fun j c hj hc => by
    rw [Nat.zero_add, ← hl, ← pk_const]
    congr 1
    funext x
    rw [wx, if_pos hj, hc]
  have z : ∀ (j : Nat), j < 16 → (∀ x, wordAt (blkF (UInt8.ofNat h) x) j = b32 0 <<< 24 ||| b32 0 <<< 16 ||| b32 0 <<< 8 ||| b32 0) → (P lanes fun x => wx (blkF (UInt8.ofNat h) x) (0 + j)) = 0 := fun j hj hc => by
    rw [c j _ hj hc, show b32 0 <<< 24 ||| b32 0 <<< 16 ||| b32 0 <<< 8 ||| b32 0 = 0 by decide]
    exact Nat.zero_mul _
  have v : ∀ (j n : Nat), j ∈ [3, 4, 12, 15] → lw j = n → (P lanes fun x => wx (blkF (UInt8.ofNat h) x) (0 + j)) = n := fun j n hj hn => by
    rw [Nat.zero_add, ← hn, lw]
    congr 1
    funext x
    rw [wx, if_pos (by simp only [List.mem_cons, List.not_mem_nil, or_false] at hj; omega), blk_free _ _ _ hj]
  have s0 : ∀ x, wordAt (blkF (UInt8.ofNat h) x) 0 = b32 99 <<< 24 ||| b32 0 <<< 16 ||| b32 0 <<< 8 ||| b32 1 := fun x => by unfold blkF; split <;> rfl
  have s1 : ∀ x, wordAt (blkF (UInt8.ofNat h) x) 1 = b32 97 <<< 24 ||| b32 104 <<< 16 ||| b32 0 <<< 8 ||| b32 0 := fun x => by unfold blkF; split <;> rfl
  have s2 : ∀ x, wordAt (blkF (UInt8.ofNat h) x) 2 = b32 1 <<< 24 ||| b32 (UInt8.ofNat h) <<< 16 ||| b32 116 <<< 8 ||| b32 0 := fun x => by unfold blkF; split <;> rfl
  simp only [wn, List.range, List.range.loop, List.map_cons, List.map_nil]
  rw [c 0 _ (by decide) s0, c 1 _ (by decide) s1, c 2 _ (by decide) s2, v 3 _ (by decide) l3, v 4 _ (by decide) l4, v 12 _ (by decide) l12, v 15 _ (by decide) l15,
    z 5 (by decide) (fun x => by unfold blkF; split <;> rfl), z 6 (by decide) (fun x => by unfold blkF; split <;> rfl), z 7 (by decide) (fun x => by unfold blkF; split <;> rfl), z 8 (by decide) (fun x => by unfold blkF; split <;> rfl), z 9 (by decide) (fun x => by unfold blkF; split <;> rfl), z 10 (by decide) (fun x => by unfold blkF; split <;> rfl), z 11 (by decide) (fun x => by unfold blkF; split <;> rfl), z 13 (by decide) (fun x => by unfold blkF; split <;> rfl), z 14 (by decide) (fun x => by unfold blkF; split <;> rfl)]
  rw [w2_nat ⟨h, hh⟩, show (b32 99 <<< 24 ||| b32 0 <<< 16 ||| b32 0 <<< 8 ||| b32 1).toNat = 1660944385 by decide, show (b32 97 <<< 24 ||| b32 104 <<< 16 ||| b32 0 <<< 8 ||| b32 0).toNat = 1634205696 by decide]
  rfl
def chk (h : Nat) : Bool := difS 128 (wF h) ai ao bi bo
theorem chk_a : ((List.range 9).all fun h => chk h) = true := by decide +kernel
theorem chk_b : ((List.range 8).all fun h => chk (h + 9)) = true := by decide +kernel
theorem chk_c : ((List.range 8).all fun h => chk (h + 17)) = true := by decide +kernel
theorem chk_d : ((List.range 8).all fun h => chk (h + 25)) = true := by decide +kernel
theorem chk_all (h : Nat) (hh : h < 33) : chk h = true := by
  rcases Nat.lt_or_ge h 9 with h1 | h1
  · exact List.all_eq_true.1 chk_a h (List.mem_range.2 h1)
  rcases Nat.lt_or_ge h 17 with h2 | h2
  · have := List.all_eq_true.1 chk_b (h - 9) (List.mem_range.2 (by omega))
    rwa [show h - 9 + 9 = h by omega] at this
  rcases Nat.lt_or_ge h 25 with h3 | h3
  · have := List.all_eq_true.1 chk_c (h - 17) (List.mem_range.2 (by omega))
    rwa [show h - 17 + 17 = h by omega] at this
  · have := List.all_eq_true.1 chk_d (h - 25) (List.mem_range.2 (by omega))
    rwa [show h - 25 + 25 = h by omega] at this
theorem seals_differ (h : Nat) (hh : h < 33) (x : UInt8 × UInt8) (hx : x ∈ lanes) : (compress ao ((compress ai (blkF (UInt8.ofNat h) x)).bytes ++ tl32)).bytes ≠ (compress bo ((compress bi (blkF (UInt8.ofNat h) x)).bytes ++ tl32)).bytes := by
  have hl : lanes.length = 128 := by decide +kernel
  have hc := chk_all h hh
  unfold chk at hc
  rw [← wn_blk h hh, ← hl] at hc
  exact difS_spec lanes (blkF (UInt8.ofNat h)) ai ao bi bo hc x hx
end TwS

namespace Go.Proofs.YtkijoddconipoaaDoor
open Go Go.RowKit Tw Av TwS
theorem digits_small {n : Nat} (h0 : 0 < n) (h1 : n < 256) : digits n = [UInt8.ofNat n] := by
  unfold digits
  rw [digitsF, if_neg (by omega), show n / 256 = 0 by omega]
  rfl
theorem tlvI_small {c n : Nat} (h0 : 0 < n) (h1 : n < 256) : tlvI (c : Int) (n : Int) = [UInt8.ofNat c, 0, 0, 1, UInt8.ofNat n] := by
  unfold tlvI tlvInt tlvNum
  rw [Int.toNat_natCast, Int.toNat_natCast, digits_small h0 h1]
  kernel_rfl
theorem tlvI_none {c : Nat} : tlvI (c : Int) 0 = [UInt8.ofNat c, 0, 0, 0] := by
  unfold tlvI tlvInt tlvNum
  kernel_rfl
theorem hdr_blk {h t : Nat} {r : UInt8} (h0 : 0 < h) (h1 : h < 33) (ht : t < 64) : (hdrB ⟨[97], h, t, oneH r⟩).length ≤ 55 ∧ hdrB ⟨[97], h, t, oneH r⟩ ++ (128 :: zeros (55 - (hdrB ⟨[97], h, t, oneH r⟩).length) ++ be64 (8 * (64 + (hdrB ⟨[97], h, t, oneH r⟩).length))) = blkF (UInt8.ofNat h) (UInt8.ofNat t, r) := by
  have e : hdrB ⟨[97], h, t, oneH r⟩ = [99, 0, 0, 1, 97] ++ tlvI ((104 : Nat) : Int) (h : Int) ++ tlvI ((116 : Nat) : Int) (t : Int) ++ ([114, 0, 0, 32, r] ++ zeros 31) := by
    kernel_rfl
  rw [e, tlvI_small h0 (by omega)]
  rcases Nat.eq_zero_or_pos t with rfl | h2
  · rw [show ((0 : Nat) : Int) = 0 from rfl, tlvI_none]
    exact ⟨by simp [zeros], rfl⟩
  · have hne : UInt8.ofNat t ≠ 0 := (by decide : ∀ t : Fin 64, 0 < t.val → UInt8.ofNat t.val ≠ 0) ⟨t, ht⟩ h2
    rw [tlvI_small h2 (by omega)]
    unfold blkF
    rw [if_neg hne]
    exact ⟨by simp [zeros], rfl⟩
theorem seal_two {k kb s : Bs} {I X : H8} (hk : keyB k = kb) (hl : kb.length = 64) (hi : compress h0 (xb 54 kb) = I) (ho : compress h0 (xb 92 kb) = X) (hs : s.length ≤ 55) :
    (sealH k s).l = (compress X ((compress I (s ++ (128 :: zeros (55 - s.length) ++ be64 (8 * (64 + s.length))))).bytes ++ tl32)).bytes := by
  subst hi ho
  unfold sealH
  rw [hk]
  show sha (xb 92 kb ++ sha (xb 54 kb ++ s)) = _
  have h1 : (xb 54 kb).length = 64 := by simp [xb, hl]
  have h2 : (xb 92 kb).length = 64 := by simp [xb, hl]
  rw [sha_two h1 hs, sha_two h2 (by rw [H8.bytes_len]; decide)]
  rfl
theorem mem_lanes {t : Nat} {r : UInt8} (ht : t < 64) (hr : r = 0 ∨ r = 1) : (UInt8.ofNat t, r) ∈ lanes := by
  unfold lanes
  rw [List.mem_flatMap]
  refine ⟨t, List.mem_range.2 ht, ?_⟩
  rcases hr with rfl | rfl <;> simp
theorem seal_ne {h t : Nat} {r : UInt8} (h0 : 0 < h) (h1 : h < 33) (ht : t < 64) (hr : r = 0 ∨ r = 1) : sealOf [107, 101, 121] ⟨[97], h, t, oneH r⟩ ≠ sealOf [111, 116, 104, 101, 114] ⟨[97], h, t, oneH r⟩ := by
  obtain ⟨e1, e2⟩ := hdr_blk (r := r) h0 h1 ht
  intro he
  have he := congrArg Hsh.l he
  unfold sealOf at he
  rw [seal_two (kb := kyA) rfl rfl ai_eq ao_eq e1, seal_two (kb := kyB) rfl rfl bi_eq bo_eq e1, e2] at he
  exact seals_differ h h1 _ (mem_lanes ht hr) he
theorem and1 (r : UInt8) : r &&& 1 = 0 ∨ r &&& 1 = 1 := by
  have h : (r &&& 1).toNat = r.toNat % 2 := by rw [UInt8.toNat_and]; exact Nat.and_two_pow_sub_one_eq_mod r.toNat 1
  rcases (by omega : r.toNat % 2 = 0 ∨ r.toNat % 2 = 1) with h1 | h1
  · exact .inl (UInt8.toNat.inj (by rw [h, h1]; rfl))
  · exact .inr (UInt8.toNat.inj (by rw [h, h1]; rfl))
def cF : Cli := ⟨[97], [107, 101, 121], 50, false, [⟨5, 7, zeroH⟩]⟩
theorem cF_new : newR [107, 101, 121] 50 ⟨[97], 5, 7, zeroH⟩ = cF ∧ newE [107, 101, 121] 50 ⟨[97], 5, 7, zeroH⟩ = 0 := by
  have h : mayC (newC [107, 101, 121] 50 ⟨[97], 5, 7, zeroH⟩) = true := by kernel_rfl
  unfold newR newE
  rw [if_pos h, if_pos h]
  exact ⟨rfl, rfl⟩
theorem cF_act (n : Int) : actC cF n = decide (n < 57) := by
  unfold actC
  rfl
theorem cF_upd {x : Hdr} {n : Int} : decide (updE cF x (sealOf [107, 101, 121] x) n = 19) = decide (57 ≤ n) := by
  unfold updE
  rw [cF_act]
  by_cases h : n < 57
  · rw [decide_eq_true h, if_neg (by simp), decide_eq_false (show ¬ 57 ≤ n by omega)]
    split
    · rfl
    · rw [if_neg (by exact fun h => h rfl)]
      rfl
  · rw [decide_eq_false h, if_pos rfl, decide_eq_true (show 57 ≤ n by omega)]
    rfl
theorem cF_bad {x : Stp14} : updE cF (hd14 x) (sealOf [111, 116, 104, 101, 114] (hd14 x)) 0 = 18 ∨ updE cF (hd14 x) (sealOf [111, 116, 104, 101, 114] (hd14 x)) 0 = 1 := by
  unfold updE
  rw [show actC cF 0 = true from cF_act 0, if_neg (by simp)]
  split
  · exact .inr rfl
  · rename_i h
    rw [if_pos]
    · exact .inl rfl
    · have hc : (hd14 x).c = [97] := Classical.byContradiction fun hn => h (.inr hn)
      have h1 := Int.emod_nonneg x.h (b := 32) (by omega)
      have h2 := Int.emod_lt_of_pos x.h (b := 32) (by omega)
      have h3 := Int.emod_nonneg x.t (b := 64) (by omega)
      have h4 := Int.emod_lt_of_pos x.t (b := 64) (by omega)
      obtain ⟨H, hH⟩ : ∃ H : Nat, 1 + x.h % 32 = (H : Int) := ⟨(1 + x.h % 32).toNat, by omega⟩
      obtain ⟨T, hT⟩ : ∃ T : Nat, x.t % 64 = (T : Int) := ⟨(x.t % 64).toNat, by omega⟩
      have e : hd14 x = ⟨[97], H, T, oneH (x.r &&& 1)⟩ := by
        rw [← hH, ← hT, ← hc]
        rfl
      rw [e]
      exact seal_ne (by omega) (by omega) (by omega) (and1 x.r)
theorem cF_frz {x : Hdr} {mac : Hsh} : updE (frz cF) x mac 0 = 19 := by
  unfold updE actC
  rfl
theorem cF_ok : CliOk cF := ⟨by decide, by decide, ⟨by decide, by decide⟩, by decide, by decide⟩
theorem cF_okf : CliOk (frz cF) := ⟨by decide, by decide, ⟨by decide, by decide⟩, by decide, by decide⟩
set_option maxHeartbeats 1000000 in
instance fnClientFrozen {o f : Bool} {c : Bs} {h t n now : Int} {r : UInt8} : Ans Tryd.prog GL 8 [.agg 7 [boo o, boo f, str c, int h, int t, int n, u8A r], int now] True (boo true) := ⟨fun _ => by
  have q1 := Int.emod_nonneg now (b := 128) (by omega)
  have q2 := Int.emod_lt_of_pos now (b := 128) (by omega)
  have u1 : (!decide (decide (updE cF (hd14 ⟨o, f, c, h, t, n, r⟩) (sealOf [107, 101, 121] (hd14 ⟨o, f, c, h, t, n, r⟩)) (now % 128) = 19) = decide (57 ≤ now % 128))) = false := by rw [cF_upd, decide_eq_true rfl]; rfl
  have u2 := cF_bad (x := ⟨o, f, c, h, t, n, r⟩)
  have h1 := Int.emod_nonneg h (b := 32) (by omega)
  have h2 := Int.emod_lt_of_pos h (b := 32) (by omega)
  have h3 := Int.emod_nonneg t (b := 64) (by omega)
  have h4 := Int.emod_lt_of_pos t (b := 64) (by omega)
  have e1 : (hd14 ⟨o, f, c, h, t, n, r⟩).h = 1 + h % 32 := rfl
  have e2 : (hd14 ⟨o, f, c, h, t, n, r⟩).t = t % 64 := rfl
  refine spec_enter Tryd.func8 rfl Tryd.ntmps8 rfl (fun _ hs => ?_)
  repeat' (first | refine W ?_ | refine op2 ?_ | refine ob4 ?_ | refine ob2 (fun _ => ?_) | intro _ | simp only [List.set])
  rw [cF_new.1, cF_new.2]
  have hp : CliOk cF ∧ (hd14 ⟨o, f, c, h, t, n, r⟩).h ≤ 9223372036854775807 ∧ (hd14 ⟨o, f, c, h, t, n, r⟩).t ≤ 9223372036854775807 := ⟨cF_ok, by omega, by omega⟩
  have hp2 : CliOk ⟨cF.c, cF.k, cF.p, true, cF.l⟩ ∧ (hd14 ⟨o, f, c, h, t, n, r⟩).h ≤ 9223372036854775807 ∧ (hd14 ⟨o, f, c, h, t, n, r⟩).t ≤ 9223372036854775807 := ⟨cF_okf, by omega, by omega⟩
  repeat' (first | refine W ?_ | refine op2 ?_ | refine ob4 ?_ | refine ob2 (fun _ => ?_) | intro _ | simp only [List.set])
  generalize hH : hd14 ⟨o, f, c, h, t, n, r⟩ = H at *
  rw [show (⟨H.c, H.h, H.t, H.r⟩ : Hdr) = H from rfl, show (⟨cF.c, cF.k, cF.p, cF.f, cF.l⟩ : Cli) = cF from rfl, u1]
  have hl1 : latC cF.l = ⟨5, 7, zeroH⟩ := rfl
  have hq1 : (-4611686018427387904 ≤ (latC cF.l).t ∧ (latC cF.l).t ≤ 4611686018427387904) ∧ -4611686018427387904 ≤ cF.p ∧ cF.p < 4611686018427387904 := by decide
  have u3 : (!decide (actC cF (now % 128) = decide (now % 128 < 57))) = false := by rw [cF_act, decide_eq_true rfl]; rfl
  repeat' (first | refine W ?_ | refine op2 ?_ | refine ob4 ?_ | refine ob2 (fun _ => ?_) | intro _ | simp only [List.set])
  rw [show (⟨cF.c, cF.k, cF.p, cF.f, cF.l⟩ : Cli) = cF from rfl, u3]
  have hp3 : CliOk cF ∧ (hd14 ⟨o, f, c, h, t, n, r⟩).h ≤ 9223372036854775807 ∧ (hd14 ⟨o, f, c, h, t, n, r⟩).t ≤ 9223372036854775807 := by rw [hH]; exact hp
  have hp4 : (hd14 ⟨o, f, c, h, t, n, r⟩).h ≤ 9223372036854775807 ∧ (hd14 ⟨o, f, c, h, t, n, r⟩).t ≤ 9223372036854775807 := hp3.2
  repeat' (first | refine W ?_ | refine op2 ?_ | refine ob4 ?_ | refine ob2 (fun _ => ?_) | intro _ | simp only [List.set])
  rw [hH, show (⟨H.c, H.h, H.t, H.r⟩ : Hdr) = H from rfl, show (⟨cF.c, cF.k, cF.p, cF.f, cF.l⟩ : Cli) = cF from rfl]
  have u4 : actC ⟨cF.c, cF.k, cF.p, true, cF.l⟩ 0 = false := by unfold actC; rfl
  have u5 : updE ⟨cF.c, cF.k, cF.p, true, cF.l⟩ H (sealOf [107, 101, 121] H) 0 = 19 := cF_frz
  have hp5 : CliOk ⟨cF.c, cF.k, cF.p, true, cF.l⟩ ∧ (hd14 ⟨o, f, c, h, t, n, r⟩).h ≤ 9223372036854775807 ∧ (hd14 ⟨o, f, c, h, t, n, r⟩).t ≤ 9223372036854775807 := by rw [hH]; exact hp2
  rcases u2 with u2 | u2
  all_goals
    rw [u2]
    repeat' (first | refine W ?_ | refine op2 ?_ | refine ob4 ?_ | refine ob2 (fun _ => ?_) | intro _ | simp only [List.set])
    rw [hH, show (⟨H.c, H.h, H.t, H.r⟩ : Hdr) = H from rfl, u5]
    repeat' (first | refine W ?_ | refine op2 ?_ | refine ob4 ?_ | refine ob2 (fun _ => ?_) | intro _ | simp only [List.set])
    rw [u4]
    repeat' (first | refine W ?_ | refine op2 ?_ | refine ob4 ?_ | refine ob2 (fun _ => ?_) | intro _ | simp only [List.set])
    refine reE ?_
    rfl⟩
end Go.Proofs.YtkijoddconipoaaDoor
