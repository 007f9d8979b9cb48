/- The references' hash and tree, walked. -/
import Derived.Test.YtkijoddconipoaaGreatDoorP1
import Derived.Test.YtkijoddconipoaaGreatDoorP2
import Derived.Test.YtkijoddconipoaaGreatDoorP3
import Derived.Test.YtkijoddconipoaaGreatDoorP4
import Derived.Test.YtkijoddconipoaaGreatDoorP5
import Derived.Test.YtkijoddconipoaaGreatDoorQ1
import Derived.Test.YtkijoddconipoaaGreatDoorQ2
import Derived.Test.YtkijoddconipoaaGreatDoorK1
import Derived.Test.YtkijoddconipoaaGreatDoorQ3
import Derived.Test.YtkijoddconipoaaGreatDoorQ4
namespace Go.Proofs.YtkijoddconipoaaGreatDoor
open Go Go.RowKit Tw Av
instance fnRDigits {n : Nat} : Ans Tryz.prog GL 126 [.lit (.int .u64 n)] (n < 18446744073709551616) (str (Tw.digits n)) := ⟨fun hn => by
  refine spec_enter Tryz.func126 rfl Tryz.ntmps126 rfl (fun _ hs => ?_)
  repeat' (first | refine W ?_ | refine ob2 (fun _ => ?_) | intro _)
  refine ac_loop (α := Nat × Nat × Bs) (fun q => [(0, .lit (.int .u64 q.2.1)), (3, str q.2.2)]) (fun _ => []) (fun q => q.2.1 < 256 ^ q.1 ∧ q.2.2.length + q.1 ≤ 8 ∧ digitsF q.1 q.2.1 ++ q.2.2 = Tw.digits n) (fun q => q.1) (8, n, []) ⟨rfl, rfl, trivial⟩ (List.Sublist.refl _) ⟨by simpa using hn, by simp, by simp [Tw.digits]⟩ ?_
  rintro ⟨f, k, s⟩ ⟨g1, g2, g3⟩
  dsimp only at g1 g2 g3 ⊢
  repeat' (first | refine W ?_ | refine ob2 (fun _ => ?_) | intro _)
  refine ac_cond (fun hlt => ?_) (fun hlt => ?_)
  · obtain ⟨f, rfl⟩ : ∃ f', f = f' + 1 := ⟨f - 1, by
      rcases Nat.eq_zero_or_pos f with h | h
      · subst h; simp at g1; omega
      · omega⟩
    have h0 : k ≠ 0 := by omega
    rw [digitsF, if_neg h0, List.append_assoc] at g3
    have hk : k < 18446744073709551616 := by
      have : 256 ^ (f + 1) ≤ 256 ^ 8 := Nat.pow_le_pow_right (by omega) (by omega)
      omega
    repeat' (first | refine W ?_ | refine ob2 (fun _ => ?_) | intro _)
    rw [u8ofInt k]
    refine al_div (h2 := by intro c _ _; rw [IntKind.wrap_u64]; omega) ?_
    repeat' (first | refine W ?_ | refine ob2 (fun _ => ?_) | intro _)
    have hq : (k : Int) / 256 = ((k / 256 : Nat) : Int) := by omega
    rw [hq]
    exact ae_round (f, k / 256, [UInt8.ofNat k] ++ s) ⟨rfl, rfl, trivial⟩ (List.Sublist.refl _) ⟨by simp only; rw [Nat.pow_succ] at g1; omega, by simp only [List.length_append, List.length_singleton]; omega, by simpa using g3⟩ (Nat.lt_succ_self f)
  · have h0 : k = 0 := by omega
    subst h0
    have : digitsF f 0 = [] := by cases f <;> simp [digitsF]
    rw [this, List.nil_append] at g3
    subst g3
    repeat' (first | refine W ?_ | refine ob2 (fun _ => ?_) | intro _)
    refine reE ?_
    rfl⟩
instance fnRNum {c : Int} {n : Nat} : Ans Tryz.prog GL 105 [.lit (.int .u8 c), .lit (.int .u64 n)] (n < 18446744073709551616) (str (tlvT c (Tw.digits n))) := ⟨fun hn => by
  refine spec_enter Tryz.func105 rfl Tryz.ntmps105 rfl (fun _ hs => ?_)
  repeat' (first | refine W ?_ | refine ob2 (fun _ => ?_) | intro _)
  refine reE ?_
  rfl⟩
theorem tlvI_eq (c : UInt8) (n : Int) : tlvInt c n = tlvText c (Tw.digits n.toNat) := rfl
instance fnRInt {c : Int} {n : Int} : Ans Tryz.prog GL 65 [.lit (.int .u8 c), int n] (n ≤ 9223372036854775807) (str (tlvI c n)) := ⟨fun hn => by
  refine spec_enter Tryz.func65 rfl Tryz.ntmps65 rfl (fun _ hs => ?_)
  repeat' (first | refine W ?_ | refine ob2 (fun _ => ?_) | intro _)
  refine ac_cond (fun hlt => ?_) (fun hlt => ?_)
  · repeat' (first | refine W ?_ | refine ob2 (fun _ => ?_) | intro _)
    refine al_callP (show (0 : Nat) < 18446744073709551616 by omega) ?_ (hc := fnRNum (n := 0))
    repeat' (first | refine W ?_ | refine ob2 (fun _ => ?_) | intro _)
    refine reE ?_
    have : n.toNat = 0 := by omega
    rw [tlvI, tlvInt, this]
    rfl
  · repeat' (first | refine W ?_ | refine ob2 (fun _ => ?_) | intro _)
    obtain ⟨k, rfl⟩ : ∃ k : Nat, n = k := ⟨n.toNat, by omega⟩
    refine al_callP (show k < 18446744073709551616 by omega) ?_ (hc := fnRNum (n := k))
    repeat' (first | refine W ?_ | refine ob2 (fun _ => ?_) | intro _)
    refine reE ?_
    rfl⟩
/-- turned -/
instance fnTurned {x : W32} {c : Int} : Ans Tryz.prog GL 164 [w32A x, .lit (.int .u64 c)] (0 < c ∧ c < 32) (w32A (rotr x c.toNat)) := ⟨fun hc => by
  obtain ⟨n, rfl⟩ : ∃ n : Nat, c = n := ⟨c.toNat, by omega⟩
  refine spec_enter Tryz.func164 rfl Tryz.ntmps164 rfl (fun _ hs => ?_)
  repeat' (first | refine W ?_ | refine ob2 (fun _ => ?_) | intro _)
  refine al_shr32 n ?_
  repeat' (first | refine W ?_ | refine ob2 (fun _ => ?_) | intro _)
  refine al_arith ?_
  have hw : IntKind.u64.wrap ((32 : Int) - (n : Int)) = ((32 - n : Nat) : Int) := by rw [IntKind.wrap_u64]; omega
  rw [hw]
  repeat' (first | refine W ?_ | refine ob2 (fun _ => ?_) | intro _)
  refine al_shl32 (32 - n) ?_
  repeat' (first | refine opW ?_ | refine obW ?_ | refine W ?_ | refine ob2 (fun _ => ?_) | intro _)
  refine reE ?_
  rfl⟩
instance fnRHText {h : Hsh} : Ans Tryz.prog GL 79 [hA h] True (str h.l) := ⟨fun _ => by
  refine spec_enter Tryz.func79 rfl Tryz.ntmps79 rfl (fun _ hs => ?_)
  repeat' (first | refine W ?_ | refine ob2 (fun _ => ?_) | intro _)
  rename_i g
  have hlen := h.len
  refine ac_as 3 (Imp.nil (k := 1)) ?_
  refine ac_st (fun ok w h => h.full 5 1 none 0) ?_
  refine ac_loop (α := Nat × Value) (fun q => [(1, ptr g), (3, .sl 1 ((h.l.take q.1).map u8A) (some q.2)), (4, int q.1)]) (fun q => [.tail 5 1 q.2, .var g 33 (.agg 32 (h.l.map u8A))]) (fun q => q.1 ≤ 32) (fun q => 32 - q.1) (0, .slice none 0 0) ⟨rfl, rfl, rfl, trivial⟩ (List.Sublist.refl _) (Nat.zero_le _) ?_
  rintro ⟨i, v⟩ g1
  dsimp only at g1 ⊢
  repeat' (first | refine W ?_ | refine ob2 (fun _ => ?_) | intro _)
  refine ac_cond (fun hlt => ?_) (fun hlt => ?_)
  · have hlt' : i < h.l.length := by omega
    repeat' (first | refine W ?_ | refine ob2 (fun _ => ?_) | intro _)
    refine al_idxA i ?_
    repeat' (first | refine W ?_ | refine ob2 (fun _ => ?_) | intro _)
    refine al_loadM i hlt' ?_
    repeat' (first | refine W ?_ | refine ob2 (fun _ => ?_) | intro _)
    refine al_append (fun v' => ?_)
    repeat' (first | refine W ?_ | refine ob2 (fun _ => ?_) | intro _)
    have e : (h.l.take i).map u8A ++ [u8A h.l[i]] = (h.l.take (i + 1)).map u8A := by rw [List.take_succ_eq_append_getElem hlt', List.map_append]; rfl
    rw [e]
    exact ae_round (i + 1, v') ⟨rfl, rfl, rfl, trivial⟩ (List.Sublist.refl _) (by simp only; omega) (by simp only; omega)
  · repeat' (first | refine W ?_ | refine ob2 (fun _ => ?_) | intro _)
    rw [List.take_of_length_le (by omega)]
    repeat' (first | refine W ?_ | refine ob2 (fun _ => ?_) | intro _)
    refine reE ?_
    rfl⟩
end Go.Proofs.YtkijoddconipoaaGreatDoor

namespace Go.Proofs.YtkijoddconipoaaGreatDoor
open Go Go.RowKit Tw Av
theorem wsl (blk : Bs) : ∀ k, (ws blk k).length = k
  | 0 => rfl
  | k + 1 => by simp [ws, wsl blk k]
/-- the row of words when k of them are made -/
def wA (blk : Bs) (k : Nat) : List AV := (ws blk k).map (fun x => .lit (w32v x)) ++ List.replicate (64 - k) (.lit (w32v 0))
instance {blk : Bs} {k : Nat} : Siz (wA blk k) 1 := by unfold wA; infer_instance
theorem wA_len (blk : Bs) (k : Nat) (h : k ≤ 64) : (wA blk k).length = 64 := by simp [wA, wsl]; omega
theorem wA_get (blk : Bs) (k j : Nat) (h : j < k) : (wA blk k)[j]? = some (w32A ((ws blk k).getD j 0)) := by
  have hl := wsl blk k
  simp [wA, List.getElem?_append, hl, h]
def nxt (blk : Bs) (k : Nat) : W32 := if k < 16 then wordAt blk k else nextW (ws blk k) k
theorem wA_next (blk : Bs) (k : Nat) (h : k < 64) : (wA blk k).set k (w32A (nxt blk k)) = wA blk (k + 1) := by
  have hl := wsl blk k
  have hx : ws blk (k + 1) = ws blk k ++ [nxt blk k] := rfl
  unfold wA
  rw [hx, List.set_append, if_neg (by simp [hl]), List.map_append, List.length_map, hl, Nat.sub_self, show 64 - k = (64 - (k + 1)) + 1 by omega, List.replicate_succ]
  simp
abbrev hwA (x : H8) : AV := .agg 8 (x.words.map fun x => .lit (w32v x))
abbrev tabA : AV := .agg 2 [.sl 1 (h0.words.map fun x => .lit (w32v x)) none, .sl 1 (kTab.map fun x => .lit (w32v x)) none]
theorem gd {l : Bs} {i : Nat} (h : i < l.length) : l.getD i 0 = l[i] := by simp [List.getD, h]
theorem gdk {l : List W32} {i : Nat} (h : i < l.length) : l.getD i 0 = l[i] := by simp [List.getD, h]
theorem ch_eq (e f g : W32) : (e &&& f) ^^^ (~~~ e &&& g) = g ^^^ e &&& (f ^^^ g) := by
  apply BitVec.eq_of_getLsbD_eq
  intro i hi
  simp only [BitVec.getLsbD_xor, BitVec.getLsbD_and, BitVec.getLsbD_not, hi, decide_true, Bool.true_and]
  cases e.getLsbD i <;> cases f.getLsbD i <;> cases g.getLsbD i <;> rfl
theorem maj_eq (a b c : W32) : (a &&& b) ^^^ (a &&& c) ^^^ (b &&& c) = a &&& b ||| c &&& (a ||| b) := by
  apply BitVec.eq_of_getLsbD_eq
  intro i hi
  simp only [BitVec.getLsbD_xor, BitVec.getLsbD_and, BitVec.getLsbD_or]
  cases a.getLsbD i <;> cases b.getLsbD i <;> cases c.getLsbD i <;> rfl
def roundR (k w : W32) (y : H8) : H8 :=
  ⟨y.h + (rotr y.e 6 ^^^ rotr y.e 11 ^^^ rotr y.e 25) + ((y.e &&& y.f) ^^^ (~~~ y.e &&& y.g)) + k + w + ((rotr y.a 2 ^^^ rotr y.a 13 ^^^ rotr y.a 22) + ((y.a &&& y.b) ^^^ (y.a &&& y.c) ^^^ (y.b &&& y.c))), y.a, y.b, y.c,
    y.d + (y.h + (rotr y.e 6 ^^^ rotr y.e 11 ^^^ rotr y.e 25) + ((y.e &&& y.f) ^^^ (~~~ y.e &&& y.g)) + k + w), y.e, y.f, y.g⟩
theorem roundR_eq (k w : W32) (y : H8) : round k w y = roundR k w y := by
  unfold round roundR
  simp only [ch_eq, maj_eq, BitVec.add_assoc]
theorem addTo_map (x y : H8) (i : Nat) (h : i < 8) : ((addTo x y i).map fun x => AV.lit (w32v x)).set i (w32A (x.words.getD i 0 + y.words.getD i 0)) = (addTo x y (i + 1)).map fun x => AV.lit (w32v x) := by
  rw [← addTo_next x y i h, List.map_set]
attribute [local irreducible] Av.Obl
set_option maxHeartbeats 4000000 in
instance fnRBlock {x : H8} {blk : Bs} {id : Option Value} : Ans Tryz.prog GL 149 [tabA, hwA x, .sl 1 (blk.map u8A) id] (blk.length = 64) (hwA (compress x blk)) := ⟨fun hbl => by
  refine spec_enter Tryz.func149 rfl Tryz.ntmps149 rfl (fun _ hs => ?_)
  repeat' (first | refine W ?_ | refine ob2 (fun _ => ?_) | intro _)
  rename_i g3 g4 g6 g7
  refine ac_asV (g := g7) (v' := .agg 64 (wA blk 0)) (fun ok w cs h => h) ?_
  refine ac_loop (α := Nat) (fun i => [(2, .sl 1 (blk.map u8A) id), (3, ptr g3), (4, ptr g4), (6, ptr g6), (7, ptr g7), (8, int i)])
      (fun i => [.var g7 206 (.agg 64 (wA blk i)), .var g6 190 (hwA ⟨0, 0, 0, 0, 0, 0, 0, 0⟩), .var g4 190 (hwA x), .var g3 165 tabA]) (fun i => i ≤ 64) (fun i => 64 - i) 0 ⟨rfl, rfl, rfl, rfl, rfl, rfl, trivial⟩ (List.Sublist.refl _) (Nat.zero_le _) ?_
  intro i hi
  repeat' (first | refine W ?_ | refine ob2 (fun _ => ?_) | intro _)
  refine ac_cond (fun hlt => ?_) (fun hlt => ?_)
  · repeat' (first | refine W ?_ | refine ob2 (fun _ => ?_) | intro _)
    have hn := wA_next blk i (by omega)
    have hl64 := wA_len blk i (by omega)
    refine ac_cond (fun h16 => ?_) (fun h16 => ?_)
    · repeat' (first | refine opW ?_ | refine obW ?_ | refine W ?_ | refine ob2 (fun _ => ?_) | intro _)
      apply obl_read []; exact rfl; exact rfl; kernel_rfl; intro _ _
      refine al_idxM (l := blk) (f := u8A) (4 * i) (by omega) ?_
      exact al_nil (ae_got rfl rfl)
      repeat' (first | refine opW ?_ | refine obW ?_ | refine W ?_ | refine ob2 (fun _ => ?_) | intro _)
      apply obl_read []; exact rfl; exact rfl; kernel_rfl; intro _ _
      refine al_idxM (l := blk) (f := u8A) (4 * i + 1) (by omega) ?_
      exact al_nil (ae_got rfl rfl)
      repeat' (first | refine opW ?_ | refine obW ?_ | refine W ?_ | refine ob2 (fun _ => ?_) | intro _)
      apply obl_read []; exact rfl; exact rfl; kernel_rfl; intro _ _
      refine al_idxM (l := blk) (f := u8A) (4 * i + 2) (by omega) ?_
      exact al_nil (ae_got rfl rfl)
      repeat' (first | refine opW ?_ | refine obW ?_ | refine W ?_ | refine ob2 (fun _ => ?_) | intro _)
      apply obl_read []; exact rfl; exact rfl; kernel_rfl; intro _ _
      refine al_idxM (l := blk) (f := u8A) (4 * i + 3) (by omega) ?_
      exact al_nil (ae_got rfl rfl)
      repeat' (first | refine opW ?_ | refine obW ?_ | refine W ?_ | refine ob2 (fun _ => ?_) | intro _)
      apply obl_read []; exact rfl; exact rfl; kernel_rfl; intro _ _
      refine al_idxA i ?_
      exact al_nil (ae_got rfl rfl)
      apply obl_writeN [0]; exact rfl; exact rfl; kernel_rfl
      · intro _ _
        refine al_storeE (j := i) (ps := wA blk i) (by omega) ?_
        exact al_nil (ae_gotN rfl)
      · exact rfl
      · exact rfl
      have e : b32 blk[4 * i] <<< 24 ||| b32 blk[4 * i + 1] <<< 16 ||| b32 blk[4 * i + 2] <<< 8 ||| b32 blk[4 * i + 3] = nxt blk i := by
        rw [nxt, if_pos (by omega), wordAt, gd, gd, gd, gd]
      rw [e, hn]
      repeat' (first | refine W ?_ | refine ob2 (fun _ => ?_) | intro _)
      refine ae_round (i + 1) ⟨rfl, rfl, rfl, rfl, rfl, rfl, trivial⟩ (List.Sublist.refl _) (by omega) (by omega)
    · repeat' (first | refine opW ?_ | refine obW ?_ | refine W ?_ | refine ob2 (fun _ => ?_) | intro _)
      apply obl_read []; exact rfl; exact rfl; kernel_rfl; intro _ _
      refine al_idxA (i - 15) ?_
      exact al_nil (ae_got rfl rfl)
      repeat' (first | refine opW ?_ | refine obW ?_ | refine W ?_ | refine ob2 (fun _ => ?_) | intro _)
      apply obl_read [0]; exact rfl; exact rfl; kernel_rfl; intro _ _
      refine al_loadE (j := i - 15) (ps := wA blk i) (wA_get blk i (i - 15) (by omega)) ?_
      exact al_nil (ae_got rfl rfl)
      repeat' (first | refine opW ?_ | refine obW ?_ | refine W ?_ | refine ob2 (fun _ => ?_) | intro _)
      apply obl_read []; exact rfl; exact rfl; kernel_rfl; intro _ _
      refine al_idxA (i - 15) ?_
      exact al_nil (ae_got rfl rfl)
      repeat' (first | refine opW ?_ | refine obW ?_ | refine W ?_ | refine ob2 (fun _ => ?_) | intro _)
      apply obl_read [0]; exact rfl; exact rfl; kernel_rfl; intro _ _
      refine al_loadE (j := i - 15) (ps := wA blk i) (wA_get blk i (i - 15) (by omega)) ?_
      exact al_nil (ae_got rfl rfl)
      repeat' (first | refine opW ?_ | refine obW ?_ | refine W ?_ | refine ob2 (fun _ => ?_) | intro _)
      apply obl_read []; exact rfl; exact rfl; kernel_rfl; intro _ _
      refine al_idxA (i - 15) ?_
      exact al_nil (ae_got rfl rfl)
      repeat' (first | refine opW ?_ | refine obW ?_ | refine W ?_ | refine ob2 (fun _ => ?_) | intro _)
      apply obl_read [0]; exact rfl; exact rfl; kernel_rfl; intro _ _
      refine al_loadE (j := i - 15) (ps := wA blk i) (wA_get blk i (i - 15) (by omega)) ?_
      exact al_nil (ae_got rfl rfl)
      repeat' (first | refine opW ?_ | refine obW ?_ | refine W ?_ | refine ob2 (fun _ => ?_) | intro _)
      apply obl_read []; exact rfl; exact rfl; kernel_rfl; intro _ _
      refine al_idxA (i - 2) ?_
      exact al_nil (ae_got rfl rfl)
      repeat' (first | refine opW ?_ | refine obW ?_ | refine W ?_ | refine ob2 (fun _ => ?_) | intro _)
      apply obl_read [0]; exact rfl; exact rfl; kernel_rfl; intro _ _
      refine al_loadE (j := i - 2) (ps := wA blk i) (wA_get blk i (i - 2) (by omega)) ?_
      exact al_nil (ae_got rfl rfl)
      repeat' (first | refine opW ?_ | refine obW ?_ | refine W ?_ | refine ob2 (fun _ => ?_) | intro _)
      apply obl_read []; exact rfl; exact rfl; kernel_rfl; intro _ _
      refine al_idxA (i - 2) ?_
      exact al_nil (ae_got rfl rfl)
      repeat' (first | refine opW ?_ | refine obW ?_ | refine W ?_ | refine ob2 (fun _ => ?_) | intro _)
      apply obl_read [0]; exact rfl; exact rfl; kernel_rfl; intro _ _
      refine al_loadE (j := i - 2) (ps := wA blk i) (wA_get blk i (i - 2) (by omega)) ?_
      exact al_nil (ae_got rfl rfl)
      repeat' (first | refine opW ?_ | refine obW ?_ | refine W ?_ | refine ob2 (fun _ => ?_) | intro _)
      apply obl_read []; exact rfl; exact rfl; kernel_rfl; intro _ _
      refine al_idxA (i - 2) ?_
      exact al_nil (ae_got rfl rfl)
      repeat' (first | refine opW ?_ | refine obW ?_ | refine W ?_ | refine ob2 (fun _ => ?_) | intro _)
      apply obl_read [0]; exact rfl; exact rfl; kernel_rfl; intro _ _
      refine al_loadE (j := i - 2) (ps := wA blk i) (wA_get blk i (i - 2) (by omega)) ?_
      exact al_nil (ae_got rfl rfl)
      repeat' (first | refine opW ?_ | refine obW ?_ | refine W ?_ | refine ob2 (fun _ => ?_) | intro _)
      apply obl_read []; exact rfl; exact rfl; kernel_rfl; intro _ _
      refine al_idxA (i - 7) ?_
      exact al_nil (ae_got rfl rfl)
      repeat' (first | refine opW ?_ | refine obW ?_ | refine W ?_ | refine ob2 (fun _ => ?_) | intro _)
      apply obl_read [0]; exact rfl; exact rfl; kernel_rfl; intro _ _
      refine al_loadE (j := i - 7) (ps := wA blk i) (wA_get blk i (i - 7) (by omega)) ?_
      exact al_nil (ae_got rfl rfl)
      repeat' (first | refine opW ?_ | refine obW ?_ | refine W ?_ | refine ob2 (fun _ => ?_) | intro _)
      apply obl_read []; exact rfl; exact rfl; kernel_rfl; intro _ _
      refine al_idxA (i - 16) ?_
      exact al_nil (ae_got rfl rfl)
      repeat' (first | refine opW ?_ | refine obW ?_ | refine W ?_ | refine ob2 (fun _ => ?_) | intro _)
      apply obl_read [0]; exact rfl; exact rfl; kernel_rfl; intro _ _
      refine al_loadE (j := i - 16) (ps := wA blk i) (wA_get blk i (i - 16) (by omega)) ?_
      exact al_nil (ae_got rfl rfl)
      repeat' (first | refine opW ?_ | refine obW ?_ | refine W ?_ | refine ob2 (fun _ => ?_) | intro _)
      apply obl_read []; exact rfl; exact rfl; kernel_rfl; intro _ _
      refine al_idxA i ?_
      exact al_nil (ae_got rfl rfl)
      apply obl_writeN [0]; exact rfl; exact rfl; kernel_rfl
      · intro _ _
        refine al_storeE (j := i) (ps := wA blk i) (by omega) ?_
        exact al_nil (ae_gotN rfl)
      · exact rfl
      · exact rfl
      have e : (rotr ((ws blk i).getD (i - 2) 0) (17 : Int).toNat ^^^ rotr ((ws blk i).getD (i - 2) 0) (19 : Int).toNat ^^^ (ws blk i).getD (i - 2) 0 >>> 10) + (ws blk i).getD (i - 7) 0 + (rotr ((ws blk i).getD (i - 15) 0) (7 : Int).toNat ^^^ rotr ((ws blk i).getD (i - 15) 0) (18 : Int).toNat ^^^ (ws blk i).getD (i - 15) 0 >>> 3) + (ws blk i).getD (i - 16) 0 = nxt blk i := by
        rw [nxt, if_neg (by omega), nextW]
        show sig1 ((ws blk i).getD (i - 2) 0) + (ws blk i).getD (i - 7) 0 + sig0 ((ws blk i).getD (i - 15) 0) + (ws blk i).getD (i - 16) 0 = _
        ac_rfl
      repeat' (first | refine opW ?_ | refine obW ?_ | refine W ?_ | refine ob2 (fun _ => ?_) | intro _)
      rw [e, hn]
      exact ae_round (i + 1) ⟨rfl, rfl, rfl, rfl, rfl, rfl, trivial⟩ (List.Sublist.refl _) (by omega) (by omega)
  · obtain rfl : i = 64 := by omega
    repeat' (first | refine opW ?_ | refine obW ?_ | refine W ?_ | refine ob2 (fun _ => ?_) | intro _)
    rename_i g11
    refine ac_loop (α := Nat) (fun i => [(3, ptr g3), (4, ptr g4), (6, ptr g6), (7, ptr g7), (11, ptr g11), (12, int i)])
      (fun i => [.var g11 190 (hwA (roundsTo blk x i)), .var g7 206 (.agg 64 (wA blk 64)), .var g6 190 (hwA ⟨0, 0, 0, 0, 0, 0, 0, 0⟩), .var g4 190 (hwA x), .var g3 165 tabA]) (fun i => i ≤ 64) (fun i => 64 - i) 0 ⟨rfl, rfl, rfl, rfl, rfl, rfl, trivial⟩ (List.Sublist.refl _) (Nat.zero_le _) ?_
    intro i hi
    repeat' (first | refine W ?_ | refine ob2 (fun _ => ?_) | intro _)
    refine ac_cond (fun hlt => ?_) (fun hlt => ?_)
    · have hk : i < kTab.length := by
        have : kTab.length = 64 := rfl
        omega
      have hr : roundsTo blk x (i + 1) = roundR kTab[i] ((ws blk 64).getD i 0) (roundsTo blk x i) := by rw [roundsTo, roundR_eq, gdk hk]
      generalize roundsTo blk x i = y at *
      repeat' (first | refine opW ?_ | refine obW ?_ | refine W ?_ | refine ob2 (fun _ => ?_) | intro _)
      apply obl_read []; exact rfl; exact rfl; kernel_rfl; intro _ _
      refine al_idxM (l := kTab) (f := fun x => .lit (w32v x)) i hk ?_
      exact al_nil (ae_got rfl rfl)
      repeat' (first | refine opW ?_ | refine obW ?_ | refine W ?_ | refine ob2 (fun _ => ?_) | intro _)
      apply obl_read []; exact rfl; exact rfl; kernel_rfl; intro _ _
      refine al_idxA i ?_
      exact al_nil (ae_got rfl rfl)
      apply obl_read [1]; exact rfl; exact rfl; kernel_rfl
      · intro _ _
        refine al_loadE (j := i) (ps := wA blk 64) (wA_get blk 64 i (by omega)) ?_
        exact al_nil (ae_got rfl rfl)
      repeat' (first | refine opW ?_ | refine obW ?_ | refine W ?_ | refine ob2 (fun _ => ?_) | intro _)
      refine ae_round (i + 1) ⟨rfl, rfl, rfl, rfl, rfl, rfl, trivial⟩ ?_ (by omega) (by omega)
      dsimp only
      rw [hr]
      exact List.Sublist.refl _
    · obtain rfl : i = 64 := by omega
      have hcm : compress x blk = x.add (roundsTo blk x 64) := rfl
      rw [hcm]
      generalize roundsTo blk x 64 = y at *
      repeat' (first | refine opW ?_ | refine obW ?_ | refine W ?_ | refine ob2 (fun _ => ?_) | intro _)
      refine ac_loop (α := Nat) (fun i => [(4, ptr g4), (6, ptr g6), (11, ptr g11), (19, int i)])
        (fun i => [.var g11 190 (hwA y), .var g6 190 (hwA ⟨0, 0, 0, 0, 0, 0, 0, 0⟩), .var g4 190 (.agg 8 ((addTo x y i).map fun x => .lit (w32v x)))]) (fun i => i ≤ 8) (fun i => 8 - i) 0 ⟨rfl, rfl, rfl, rfl, trivial⟩ (by repeat (first | exact List.nil_sublist _ | exact List.Sublist.refl _ | apply List.Sublist.cons_cons | apply List.Sublist.cons)) (Nat.zero_le _) ?_
      intro i hi
      repeat' (first | refine W ?_ | refine ob2 (fun _ => ?_) | intro _)
      refine ac_cond (fun hlt => ?_) (fun hlt => ?_)
      · have hi8 : i < 8 := by omega
        repeat' (first | refine opW ?_ | refine obW ?_ | refine W ?_ | refine ob2 (fun _ => ?_) | intro _)
        apply obl_read []; exact rfl; exact rfl; kernel_rfl; intro _ _
        refine al_idxA i ?_
        exact al_nil (ae_got rfl rfl)
        apply obl_read [2]; exact rfl; exact rfl; kernel_rfl
        · intro _ _
          refine al_loadE (j := i) (ps := (addTo x y i).map fun x => .lit (w32v x)) (u := w32A (x.words.getD i 0)) (by rw [List.getElem?_map, addTo_get x y i hi8]; rfl) ?_
          exact al_nil (ae_got rfl rfl)
        repeat' (first | refine opW ?_ | refine obW ?_ | refine W ?_ | refine ob2 (fun _ => ?_) | intro _)
        apply obl_read []; exact rfl; exact rfl; kernel_rfl; intro _ _
        refine al_idxA i ?_
        exact al_nil (ae_got rfl rfl)
        apply obl_read [0]; exact rfl; exact rfl; kernel_rfl; intro _ _
        refine al_loadE (j := i) (ps := y.words.map fun x => .lit (w32v x)) (u := w32A (y.words.getD i 0)) (by rw [List.getElem?_map, words_get y i hi8]; rfl) ?_
        exact al_nil (ae_got rfl rfl)
        repeat' (first | refine opW ?_ | refine obW ?_ | refine W ?_ | refine ob2 (fun _ => ?_) | intro _)
        apply obl_read []; exact rfl; exact rfl; kernel_rfl; intro _ _
        refine al_idxA i ?_
        exact al_nil (ae_got rfl rfl)
        apply obl_writeN [2]; exact rfl; exact rfl; kernel_rfl
        · intro _ _
          refine al_storeE (j := i) (ps := (addTo x y i).map fun x => .lit (w32v x)) (by simp [addTo_len x y i hi]; omega) ?_
          exact al_nil (ae_gotN rfl)
        · exact rfl
        · exact rfl
        repeat' (first | refine opW ?_ | refine obW ?_ | refine W ?_ | refine ob2 (fun _ => ?_) | intro _)
        rw [addTo_map x y i hi8]
        exact ae_round (i + 1) ⟨rfl, rfl, rfl, rfl, trivial⟩ (List.Sublist.refl _) (by omega) (by omega)
      · obtain rfl : i = 8 := by omega
        repeat' (first | refine opW ?_ | refine obW ?_ | refine W ?_ | refine ob2 (fun _ => ?_) | intro _)
        refine reE ?_
        rfl⟩
end Go.Proofs.YtkijoddconipoaaGreatDoor

namespace Go.Proofs.YtkijoddconipoaaGreatDoor
open Go Go.RowKit Tw Av
/-- a row that is filled, one by one -/
def fill {α : Type} (f : α → Value) (z : Value) (l : List α) (i : Nat) : List AV := (l.take i).map (fun x => .lit (f x)) ++ List.replicate (l.length - i) (.lit z)
instance {α : Type} {f : α → Value} {z : Value} {l : List α} {i : Nat} : Siz (fill f z l i) 1 := by unfold fill; infer_instance
theorem fill_len {α : Type} {f : α → Value} {z : Value} {l : List α} {i : Nat} (h : i ≤ l.length) : (fill f z l i).length = l.length := by simp [fill]; omega
theorem fill_set {α : Type} {f : α → Value} {z : Value} {l : List α} {i : Nat} (h : i < l.length) : (fill f z l i).set i (.lit (f l[i])) = fill f z l (i + 1) := by
  have hl : ((l.take i).map fun x => AV.lit (f x)).length = i := by simp; omega
  unfold fill
  rw [List.set_append, if_neg (by omega), hl, Nat.sub_self, show l.length - i = (l.length - (i + 1)) + 1 by omega, List.replicate_succ, List.set_cons_zero, List.take_succ_eq_append_getElem h, List.map_append, List.append_assoc]
  rfl
theorem fill_all {α : Type} {f : α → Value} {z : Value} {l : List α} : fill f z l l.length = l.map fun x => .lit (f x) := by simp [fill]
/-- bytes, in a list of values -/
class U8s (xs : List AV) (l : outParam Bs) : Prop where
  out : xs = l.map u8A
instance {l : Bs} : U8s (l.map u8A) l := ⟨rfl⟩
instance {xs : List AV} {l : Bs} {i : Nat} [h : U8s xs l] : U8s (xs.take i) (l.take i) := ⟨by rw [h.out, List.map_take]⟩
instance {xs : List AV} {l : Bs} {i : Nat} [h : U8s xs l] : U8s (xs.drop i) (l.drop i) := ⟨by rw [h.out, List.map_drop]⟩
instance fnRBlock' {x : H8} {xs : List AV} {blk : Bs} {id : Option Value} [h : U8s xs blk] : Ans Tryz.prog GL 149 [tabA, hwA x, .sl 1 xs id] (blk.length = 64) (hwA (compress x blk)) := by
  rw [h.out]
  infer_instance
def padZ (n : Nat) : Nat := (119 - n % 64) % 64
theorem pad_len (s : Bs) : (pad s).length = s.length + 1 + padZ s.length + 8 := by
  have : (be64 (8 * s.length)).length = 8 := rfl
  simp [pad, zeros, this, padZ]
  omega
theorem u8w (q : Nat) : Value.int .u8 (IntKind.u8.wrap (q : Int)) = u8v (UInt8.ofNat q) := by
  unfold u8v
  rw [IntKind.wrap_u8]
  congr 1
attribute [local irreducible] Av.Obl
set_option maxHeartbeats 4000000 in
instance fnRSum {s : Bs} : Ans Tryz.prog GL 125 [tabA, str s] (s.length ≤ 35184372088832) (hA (shaH s)) := ⟨fun hl => by
  refine spec_enter Tryz.func125 rfl Tryz.ntmps125 rfl (fun _ hs => ?_)
  repeat' (first | refine ct1 ?_ | refine al_move ?_ | refine al_box (fun _ => ?_) | refine al_alloc (fun _ => ?_) | intro _ | fail)
  rename_i g2 g4
  refine al_bytesT (fun v => ?_)
  repeat' (first | refine W ?_ | refine ob2 (fun _ => ?_) | intro _)
  refine al_append (fun v' => ?_)
  repeat' (first | refine W ?_ | refine ob2 (fun _ => ?_) | intro _)
  have hZ : padZ s.length < 64 := by unfold padZ; omega
  have hs0 : s.map (fun c => AV.lit (u8v c)) ++ [.lit (.int .u8 128)] = (s ++ 128 :: zeros 0).map u8A := by
    rw [List.map_append]
    rfl
  refine ac_as 5 (v' := .sl 1 ((s ++ 128 :: zeros 0).map u8A) (some v')) (Imp.of_eq (by rw [← hs0])) ?_
  refine ac_loop (α := Nat × Value) (fun q => [(1, str s), (2, ptr g2), (4, ptr g4), (5, .sl 1 ((s ++ 128 :: zeros q.1).map u8A) (some q.2))]) (fun q => [.tail 5 1 q.2, .var g4 33 (hA zeroH), .var g2 165 tabA])
    (fun q => q.1 ≤ padZ s.length) (fun q => padZ s.length - q.1) (0, v') ⟨rfl, rfl, rfl, rfl, trivial⟩ (List.Sublist.refl _) (Nat.zero_le _) ?_
  rintro ⟨z, v''⟩ hz
  dsimp only at hz ⊢
  have hlz : ((s ++ 128 :: zeros z).map u8A).length = s.length + 1 + z := by simp [zeros]; omega
  repeat' (first | refine W ?_ | refine ob2 (fun _ => ?_) | intro _)
  refine ac_cond (fun hne => ?_) (fun hne => ?_)
  · repeat' (first | refine W ?_ | refine ob2 (fun _ => ?_) | intro _)
    rw [hlz] at hne
    refine al_append (hb := by rw [hlz]; simp; omega) (hl := by rw [hlz]; simp [maxLen]; omega) (fun v3 => ?_)
    repeat' (first | refine W ?_ | refine ob2 (fun _ => ?_) | intro _)
    have e : (s ++ 128 :: zeros z).map u8A ++ [.lit (.int .u8 0)] = (s ++ 128 :: zeros (z + 1)).map u8A := by
      simp [zeros, List.replicate_succ', u8v]
    rw [e]
    exact ae_round (z + 1, v3) ⟨rfl, rfl, rfl, rfl, trivial⟩ (List.Sublist.refl _) (by simp only; unfold padZ at *; omega) (by simp only; unfold padZ at *; omega)
  · rw [hlz] at hne
    obtain rfl : z = padZ s.length := by unfold padZ at *; omega
    repeat' (first | refine W ?_ | refine ob2 (fun _ => ?_) | intro _)
    refine al_arith ?_
    have hw : IntKind.u64.wrap ((s.length : Int) * 8) = ((8 * s.length : Nat) : Int) := by rw [IntKind.wrap_u64]; omega
    rw [hw]
    repeat' (first | refine W ?_ | refine ob2 (fun _ => ?_) | intro _)
    generalize hB : s ++ 128 :: zeros (padZ s.length) = B at *
    have hlB : B.length = s.length + 1 + padZ s.length := by simpa using hlz
    refine ac_loop (α := Nat × Value) (fun q => [(2, ptr g2), (4, ptr g4), (5, .sl 1 ((B ++ (be64 (8 * s.length)).take q.1).map u8A) (some q.2)), (6, .lit (.int .u64 ((8 * s.length : Nat) : Int))), (7, int (7 - (q.1 : Int)))]) (fun q => [.tail 5 1 q.2, .var g4 33 (hA zeroH), .var g2 165 tabA])
      (fun q => q.1 ≤ 8) (fun q => 8 - q.1) (0, v'') ⟨rfl, rfl, by simp; rfl, rfl, rfl, trivial⟩ (List.Sublist.refl _) (Nat.zero_le _) ?_
    rintro ⟨i, v4⟩ hi
    dsimp only at hi ⊢
    have hl8 : (be64 (8 * s.length)).length = 8 := rfl
    have hlq : ((B ++ (be64 (8 * s.length)).take i).map u8A).length = B.length + i := by simp [hl8]; omega
    repeat' (first | refine W ?_ | refine ob2 (fun _ => ?_) | intro _)
    refine ac_cond (fun hge => ?_) (fun hge => ?_)
    · repeat' (first | refine W ?_ | refine ob2 (fun _ => ?_) | intro _)
      refine al_shrC (k := .u64) (n := 8 * (7 - i)) (hb := by show _ = ((8 * (7 - i) : Nat) : Int); omega) (hn := Nat.ble_eq_true_of_le (show 8 * (7 - i) ≤ 64 by omega)) ?_
      repeat' (first | refine W ?_ | refine ob2 (fun _ => ?_) | intro _)
      rw [← Int.natCast_ediv, u8w]
      refine al_append (hb := by rw [hlq]; simp; omega) (hl := by rw [hlq]; simp [maxLen]; omega) (fun v5 => ?_)
      repeat' (first | refine W ?_ | refine ob2 (fun _ => ?_) | intro _)
      have hg := be64_get (8 * s.length) (7 - i) (by omega)
      rw [show 7 - (7 - i) = i by omega] at hg
      have hi8 : i < (be64 (8 * s.length)).length := by omega
      have e : (B ++ (be64 (8 * s.length)).take i).map u8A ++ [.lit (u8v (UInt8.ofNat (8 * s.length / 2 ^ (8 * (7 - i)))))] = (B ++ (be64 (8 * s.length)).take (i + 1)).map u8A := by
        rw [List.getElem?_eq_getElem hi8] at hg
        injection hg with hg
        rw [← hg, List.take_succ_eq_append_getElem hi8, ← List.append_assoc, List.map_append (l₁ := B ++ List.take i _)]
        rfl
      rw [e]
      have e7 : (7 : Int) - (i : Int) - 1 = 7 - ((i + 1 : Nat) : Int) := by omega
      rw [e7]
      exact ae_round (i + 1, v5) ⟨rfl, rfl, rfl, rfl, rfl, trivial⟩ (List.Sublist.refl _) (by simp only; omega) (by simp only; omega)
    · obtain rfl : i = 8 := by omega
      rw [List.take_of_length_le (by omega)] at hlq ⊢
      have hP : B ++ be64 (8 * s.length) = pad s := by rw [← hB, pad, List.append_assoc]; rfl
      rw [hP] at hlq ⊢
      have hlP : (pad s).length = s.length + 1 + padZ s.length + 8 := pad_len s
      have hm64 : (pad s).length % 64 = 0 := by rw [hlP]; unfold padZ; omega
      generalize hPP : pad s = P at *
      repeat' (first | refine W ?_ | refine ob2 (fun _ => ?_) | intro _)
      rename_i g8
      refine ac_loop (α := Nat) (fun i => [(2, ptr g2), (4, ptr g4), (5, .sl 1 (P.map u8A) (some v4)), (8, ptr g8), (9, int i)]) (fun i => [.var g8 190 (.agg 8 (fill w32v (w32v 0) h0.words i)), .tail 5 1 v4, .var g4 33 (hA zeroH), .var g2 165 tabA])
        (fun i => i ≤ 8) (fun i => 8 - i) 0 ⟨rfl, rfl, rfl, rfl, rfl, trivial⟩ (List.Sublist.refl _) (Nat.zero_le _) ?_
      intro i hi
      have hw8 : h0.words.length = 8 := rfl
      repeat' (first | refine W ?_ | refine ob2 (fun _ => ?_) | intro _)
      refine ac_cond (fun hlt => ?_) (fun hlt => ?_)
      · have hi8 : i < h0.words.length := by omega
        repeat' (first | refine W ?_ | refine ob2 (fun _ => ?_) | intro _)
        refine al_idxM (l := h0.words) (f := fun x => .lit (w32v x)) i hi8 ?_
        repeat' (first | refine W ?_ | refine ob2 (fun _ => ?_) | intro _)
        refine al_idxA i ?_
        repeat' (first | refine W ?_ | refine ob2 (fun _ => ?_) | intro _)
        refine al_storeE (j := i) (ps := fill w32v (w32v 0) h0.words i) (by rw [fill_len (by omega)]; omega) ?_
        rw [fill_set hi8]
        repeat' (first | refine W ?_ | refine ob2 (fun _ => ?_) | intro _)
        exact ae_round (i + 1) ⟨rfl, rfl, rfl, rfl, rfl, trivial⟩ (List.Sublist.refl _) (by omega) (by omega)
      · obtain rfl : i = h0.words.length := by omega
        rw [fill_all]
        repeat' (first | refine W ?_ | refine ob2 (fun _ => ?_) | intro _)
        refine ac_loop (α := Nat) (fun q => [(2, ptr g2), (4, ptr g4), (5, .sl 1 (P.map u8A) (some v4)), (8, ptr g8), (10, int (64 * (q : Int)))]) (fun q => [.var g8 190 (hwA (absorb h0 q P)), .tail 5 1 v4, .var g4 33 (hA zeroH), .var g2 165 tabA])
          (fun q => 64 * q ≤ P.length) (fun q => P.length - 64 * q) 0 ⟨rfl, rfl, rfl, rfl, rfl, trivial⟩ (List.Sublist.refl _) (Nat.zero_le _) ?_
        intro q hq
        have hlPm : (P.map u8A).length = P.length := List.length_map _
        repeat' (first | refine W ?_ | refine ob2 (fun _ => ?_) | intro _)
        refine ac_cond (fun hlt => ?_) (fun hlt => ?_)
        · rw [hlPm] at hlt
          repeat' (first | refine W ?_ | refine ob2 (fun _ => ?_) | intro _)
          apply obl_read []; exact rfl; exact rfl; kernel_rfl; intro _ _
          refine al_sliceD (64 * q) (64 * q + 64) ?_
          exact al_nil (ae_got rfl rfl)
          repeat' (first | refine W ?_ | refine ob2 (fun _ => ?_) | intro _)
          have e : compress (absorb h0 q P) ((P.take (64 * q + 64)).drop (64 * q)) = absorb h0 (q + 1) P := by
            rw [absorb_succ, List.drop_take]
            congr 2
            omega
          rw [e]
          have e2 : (64 : Int) * (q : Int) + 64 = 64 * ((q + 1 : Nat) : Int) := by omega
          rw [e2]
          exact ae_round (q + 1) ⟨rfl, rfl, rfl, rfl, rfl, trivial⟩ (List.Sublist.refl _) (by omega) (by omega)
        · rw [hlPm] at hlt
          obtain rfl : q = P.length / 64 := by omega
          have hsha : shaH s = ⟨(absorb h0 (P.length / 64) P).bytes, rfl⟩ := Hsh.ext' (by rw [← hPP]; rfl)
          rw [hsha]
          generalize absorb h0 (P.length / 64) P = X at *
          repeat' (first | refine W ?_ | refine ob2 (fun _ => ?_) | intro _)
          rename_i g11
          refine ac_loop (α := Nat) (fun i => [(4, ptr g4), (8, ptr g8), (11, ptr g11), (12, int i)]) (fun i => [.var g11 33 (.agg 32 (fill u8v (u8v 0) X.bytes i)), .var g8 190 (hwA X), .var g4 33 (hA zeroH)])
            (fun i => i ≤ 32) (fun i => 32 - i) 0 ⟨rfl, rfl, rfl, rfl, trivial⟩ (by repeat (first | exact List.nil_sublist _ | exact List.Sublist.refl _ | apply List.Sublist.cons_cons | apply List.Sublist.cons)) (Nat.zero_le _) ?_
          intro i hi
          have hb32 : X.bytes.length = 32 := rfl
          repeat' (first | refine W ?_ | refine ob2 (fun _ => ?_) | intro _)
          refine ac_cond (fun hlt => ?_) (fun hlt => ?_)
          · have hi32 : i < X.bytes.length := by omega
            repeat' (first | refine W ?_ | refine ob2 (fun _ => ?_) | intro _)
            refine al_idxA (i / 4) ?_
            repeat' (first | refine W ?_ | refine ob2 (fun _ => ?_) | intro _)
            refine al_loadE (j := i / 4) (ps := X.words.map fun x => .lit (w32v x)) (u := w32A (X.words.getD (i / 4) 0)) (by rw [List.getElem?_map, words_get X (i / 4) (by omega)]; rfl) ?_
            repeat' (first | refine W ?_ | refine ob2 (fun _ => ?_) | intro _)
            refine al_shr32 (24 - 8 * (i % 4)) ?_
            repeat' (first | refine W ?_ | refine ob2 (fun _ => ?_) | intro _)
            have hg := bytes_get X i (by omega)
            rw [List.getElem?_eq_getElem hi32] at hg
            injection hg with hg
            rw [BitVec.toNat_ushiftRight, Nat.shiftRight_eq_div_pow, u8w, ← hg]
            refine al_idxA i ?_
            refine al_storeE (j := i) (ps := fill u8v (u8v 0) X.bytes i) (by rw [fill_len (by omega)]; omega) ?_
            rw [fill_set hi32]
            repeat' (first | refine W ?_ | refine ob2 (fun _ => ?_) | intro _)
            exact ae_round (i + 1) ⟨rfl, rfl, rfl, rfl, trivial⟩ (List.Sublist.refl _) (by omega) (by omega)
          · obtain rfl : i = X.bytes.length := by omega
            rw [fill_all]
            repeat' (first | refine W ?_ | refine ob2 (fun _ => ?_) | intro _)
            refine reE ?_
            rfl⟩
end Go.Proofs.YtkijoddconipoaaGreatDoor

namespace Go.Proofs.YtkijoddconipoaaGreatDoor
open Go Go.RowKit Tw Av
theorem quick_spec {s : Bs} (hl : s.length ≤ 35184372088832) : SpecE Tryz.prog GL 92 [str s] (hA (shaH s)) := by
  refine spec_enter Tryz.func92 rfl Tryz.ntmps92 rfl (fun _ hs => ?_)
  repeat' (first | refine W ?_ | refine ob2 (fun _ => ?_) | intro _)
  refine al_callP (args := [tabA, str s]) (hc := fnRSum) hl ?_
  repeat' (first | refine W ?_ | refine ob2 (fun _ => ?_) | intro _)
  refine reE ?_
  rfl
instance fnQuick {s : Bs} {n : Nat} [h : LenLe s n] : Ans Tryz.prog GL 92 [str s] (n ≤ 35184372088832) (hA (shaH s)) := ⟨fun hn => quick_spec (Nat.le_trans h.out hn)⟩
theorem ofH3 (a b c : Bs) : ofH [a, b, c] = shaH (a ++ b ++ c) := by simp [ofH]
instance fnRLeaf {a b : Bs} : Ans Tryz.prog GL 134 [.agg 2 [str a, str b]] True (hA (leafH ⟨a, b⟩)) := ⟨fun _ => by
  refine spec_enter Tryz.func134 rfl Tryz.ntmps134 rfl (fun _ hs => ?_)
  repeat' (first | refine W ?_ | refine ob2 (fun _ => ?_) | intro _)
  refine reE ?_
  rw [leafH, ofH3]
  rfl⟩
instance fnRNode {a b : Hsh} : Ans Tryz.prog GL 135 [hA a, hA b] True (hA (nodeH a b)) := ⟨fun _ => by
  refine spec_enter Tryz.func135 rfl Tryz.ntmps135 rfl (fun _ hs => ?_)
  repeat' (first | refine W ?_ | refine ob2 (fun _ => ?_) | intro _)
  refine reE ?_
  rw [nodeH, ofH3]
  rfl⟩
instance fnRTop {n : Int} {h : Hsh} : Ans Tryz.prog GL 111 [int n, hA h] (n ≤ 9223372036854775807) (hA (topH n h)) := ⟨fun hn => by
  refine spec_enter Tryz.func111 rfl Tryz.ntmps111 rfl (fun _ hs => ?_)
  repeat' (first | refine W ?_ | refine ob2 (fun _ => ?_) | intro _)
  refine reE ?_
  rw [topH, ofH3]
  rfl⟩
theorem rtree_ans (n : Nat) : n ≤ 1000000 → ∀ {l : List Ent} {xs : List AV} {id : Option Value} [Ents xs l], Ans Tryz.prog GL 112 [.sl 2 xs id] (l.length ≤ n) (hA (treeH (l.map leafH))) := by
  induction n with
  | zero =>
    intro _ l xs id hx
    refine ⟨fun hl => ?_⟩
    have h := hx.out
    subst h
    obtain rfl : l = [] := List.eq_nil_of_length_eq_zero (by omega)
    refine spec_enter Tryz.func112 rfl Tryz.ntmps112 rfl (fun _ hs => ?_)
    repeat' (first | refine W ?_ | refine ob2 (fun _ => ?_) | intro _)
    refine reE ?_
    rfl
  | succ n ih =>
    intro hn l xs id hx
    have ih := @ih (by omega)
    refine ⟨fun hl => ?_⟩
    have h := hx.out
    subst h
    have hm : (l.map entA).length = l.length := List.length_map _
    refine spec_enter Tryz.func112 rfl Tryz.ntmps112 rfl (fun _ hs => ?_)
    repeat' (first | refine W ?_ | refine ob2 (fun _ => ?_) | intro _)
    refine ac_cond (fun h0 => ?_) (fun h0 => ?_)
    · obtain rfl : l = [] := List.eq_nil_of_length_eq_zero (by omega)
      repeat' (first | refine W ?_ | refine ob2 (fun _ => ?_) | intro _)
      refine reE ?_
      rfl
    · repeat' (first | refine W ?_ | refine ob2 (fun _ => ?_) | intro _)
      refine ac_cond (fun h1 => ?_) (fun h1 => ?_)
      · obtain ⟨x, rfl⟩ : ∃ x, l = [x] := List.length_eq_one_iff.1 (by omega)
        repeat' (first | refine W ?_ | refine ob2 (fun _ => ?_) | intro _)
        refine al_idxM 0 (show 0 < [x].length by simp) ?_
        repeat' (first | refine W ?_ | refine ob2 (fun _ => ?_) | intro _)
        refine reE ?_
        rfl
      · repeat' (first | refine W ?_ | refine ob2 (fun _ => ?_) | intro _)
        have hk0 : (((l.map entA).length : Int) + 1) / 2 = (((l.length + 1) / 2 : Nat) : Int) := by omega
        rw [hk0]
        have hst := treeH_step (l.map leafH) (by rw [List.length_map]; omega)
        rw [List.length_map, ← List.map_take, ← List.map_drop] at hst
        generalize hk : (l.length + 1) / 2 = k at *
        apply obl_read []; exact rfl; exact rfl; kernel_rfl; intro _ _
        refine al_sliceD 0 k ?_
        exact al_nil (ae_got rfl rfl)
        repeat' (first | refine W ?_ | refine ob2 (fun _ => ?_) | intro _)
        apply obl_read []; exact rfl; exact rfl; kernel_rfl; intro _ _
        refine al_sliceD k l.length ?_
        exact al_nil (ae_got rfl rfl)
        repeat' (first | refine W ?_ | refine ob2 (fun _ => ?_) | intro _)
        refine reE ?_
        rw [hst, List.drop_zero, List.take_length]
        rfl
instance fnRTree {l : List Ent} {xs : List AV} {id : Option Value} [Ents xs l] : Ans Tryz.prog GL 112 [.sl 2 xs id] (l.length ≤ 1000000) (hA (treeH (l.map leafH))) := rtree_ans 1000000 (Nat.le_refl _)
instance fnRRoot {d : List Ent} {xs : List AV} {id : Option Value} [hx : Ents xs d] : Ans Tryz.prog GL 69 [.sl 2 xs id] (d.length ≤ 1000000) (hA (topH d.length (treeH (d.map leafH)))) := ⟨fun hl => by
  have h := hx.out
  subst h
  have hm : (d.map leafH).length = d.length := List.length_map _
  have hm2 : (d.map entA).length = d.length := List.length_map _
  refine spec_enter Tryz.func69 rfl Tryz.ntmps69 rfl (fun _ hs => ?_)
  repeat' (first | refine W ?_ | refine ob2 (fun _ => ?_) | intro _)
  refine reE ?_
  rw [← hm2]
  rfl⟩
end Go.Proofs.YtkijoddconipoaaGreatDoor
