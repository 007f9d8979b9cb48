/- Law 09: the law on ways' lengths, walked. -/
import Derived.Test.YtkijoddconipoaaDoorP1
import Derived.Test.YtkijoddconipoaaDoorP2
import Derived.Test.YtkijoddconipoaaDoorP3
import Derived.Test.YtkijoddconipoaaDoorP4
import Derived.Test.YtkijoddconipoaaDoorQ1
import Derived.Test.YtkijoddconipoaaDoorQ2
import Derived.Test.YtkijoddconipoaaDoorQ3
import Derived.Test.YtkijoddconipoaaDoorQ4
import Derived.Test.YtkijoddconipoaaDoorQ5
import Derived.Test.YtkijoddconipoaaDoorQ6
namespace Go.Proofs.YtkijoddconipoaaDoor
open Go Go.RowKit Tw Av
theorem tmod_bd (a : Int) {b : Int} (h : 0 < b) : -b < a.tmod b ∧ a.tmod b < b := by
  have h1 := Int.tmod_lt_of_pos a h
  have h2 := Int.lt_tmod_of_pos a h
  exact ⟨h2, h1⟩
theorem turns_ge : ∀ (m n i : Nat), 2 ^ m ≤ n → m ≤ (turns n i).length
  | 0, _, _, _ => Nat.zero_le _
  | m + 1, n, i, h => by
    have h2 : 2 ^ m * 2 ≤ n := by rw [← Nat.pow_succ]; exact h
    have h0 : 0 < 2 ^ m := Nat.pow_pos (by omega)
    rw [turns_step n i (by omega), List.length_cons]
    split
    · have := turns_ge m ((n + 1) / 2) i (by omega)
      omega
    · have := turns_ge m (n - (n + 1) / 2) (i - (n + 1) / 2) (by omega)
      omega
theorem turns_le : ∀ (m n i : Nat), n ≤ 2 ^ m → (turns n i).length ≤ m
  | 0, n, i, h => by
    have h : n ≤ 1 := by simpa using h
    obtain rfl | rfl : n = 0 ∨ n = 1 := by omega
    · simp [turns, turnsF]
    · simp [turns_one]
  | m + 1, n, i, h => by
    rw [Nat.pow_succ] at h
    by_cases hn : 1 < n
    · rw [turns_step n i hn, List.length_cons]
      split
      · have := turns_le m ((n + 1) / 2) i (by omega)
        omega
      · have := turns_le m (n - (n + 1) / 2) (i - (n + 1) / 2) (by omega)
        omega
    · obtain rfl | rfl : n = 0 ∨ n = 1 := by omega
      · simp [turns, turnsF]
      · simp [turns_one]
theorem way_in {n i : Nat} (h : i < n) (hn : n ≤ 2000) : wayOf n i = turns n i := by
  unfold wayOf
  rw [if_neg (by omega)]
  simp
instance fnTreeLong {many at_ : Int} : Ans Tryd.prog GL 4 [int many, int at_] ((-9223372036854775808 ≤ many ∧ many ≤ 9223372036854775807) ∧ -9223372036854775808 ≤ at_ ∧ at_ ≤ 9223372036854775807) (boo true) := ⟨fun hb => by
  obtain ⟨hb1, hb2⟩ := hb
  refine spec_enter Tryd.func4 rfl Tryd.ntmps4 rfl (fun _ hs => ?_)
  repeat' (first | refine op1 ?_ | refine opL ?_ | refine ct1 ?_ | refine ob1 ?_ | refine dr1 hs ?_ | refine ob2 (fun _ => ?_) | intro _ | fail)
  have t1 := tmod_bd many (b := 2000) (by omega)
  refine al_tmod ?_
  generalize many.tmod 2000 = r1 at *
  repeat' (first | refine op1 ?_ | refine opL ?_ | refine ct1 ?_ | refine ob1 ?_ | refine dr1 hs ?_ | refine ob2 (fun _ => ?_) | intro _ | fail)
  obtain ⟨n, hn⟩ : ∃ n : Nat, 1 + (r1 + 2000) % 2000 = (n : Int) := ⟨(1 + (r1 + 2000) % 2000).toNat, by omega⟩
  rw [hn]
  have hn1 : 1 ≤ n ∧ n ≤ 2000 := by omega
  repeat' (first | refine op1 ?_ | refine opL ?_ | refine ct1 ?_ | refine ob1 ?_ | refine dr1 hs ?_ | refine ob2 (fun _ => ?_) | intro _ | fail)
  have t2 := tmod_bd at_ (b := (n : Int)) (by omega)
  refine al_tmod ?_
  generalize at_.tmod (n : Int) = r2 at *
  repeat' (first | refine op1 ?_ | refine opL ?_ | refine ct1 ?_ | refine ob1 ?_ | refine dr1 hs ?_ | refine ob2 (fun _ => ?_) | intro _ | fail)
  obtain ⟨i, hi⟩ : ∃ i : Nat, (r2 + (n : Int)) % (n : Int) = (i : Int) := ⟨((r2 + (n : Int)) % (n : Int)).toNat, by
    have := Int.emod_nonneg (r2 + (n : Int)) (b := (n : Int)) (by omega)
    omega⟩
  have hin : i < n := by
    have := Int.emod_lt_of_pos (r2 + (n : Int)) (b := (n : Int)) (by omega)
    omega
  rw [hi]
  repeat' (first | refine op1 ?_ | refine opL ?_ | refine ct1 ?_ | refine ob1 ?_ | refine dr1 hs ?_ | refine ob2 (fun _ => ?_) | intro _ | fail)
  refine ac_loop (α := Nat) (fun q => [(5, boo true), (6, int n), (7, int i), (8, int q), (9, int (2 ^ q : Nat))]) (fun _ => []) (fun q => 2 ^ q < 2 * n) (fun q => 2 * n - 2 ^ q) 0 ⟨rfl, rfl, rfl, rfl, rfl, trivial⟩ (List.Sublist.refl _) (by simp; omega) ?_
  intro q hq
  have h0 : 0 < 2 ^ q := Nat.pow_pos (by omega)
  have hps : 2 ^ (q + 1) = 2 ^ q * 2 := Nat.pow_succ _ _
  have hqn : q < 2 ^ q := Nat.lt_two_pow_self
  generalize hP : 2 ^ q = P2 at *
  repeat' (first | refine op1 ?_ | refine opL ?_ | refine ct1 ?_ | refine ob1 ?_ | refine dr1 hs ?_ | refine ob2 (fun _ => ?_) | intro _ | fail)
  refine ac_cond (fun hlt => ?_) (fun hlt => ?_)
  · repeat' (first | refine op1 ?_ | refine opL ?_ | refine ct1 ?_ | refine ob1 ?_ | refine dr1 hs ?_ | refine ob2 (fun _ => ?_) | intro _ | fail)
    exact ae_round (q + 1) ⟨rfl, rfl, rfl, rfl, by rw [hps]; rfl, trivial⟩ (List.Sublist.refl _) (by rw [hps]; omega) (by rw [hps]; omega)
  · repeat' (first | refine op1 ?_ | refine opL ?_ | refine ct1 ?_ | refine ob1 ?_ | refine dr1 hs ?_ | refine ob2 (fun _ => ?_) | intro _ | fail)
    have hl1 : ∀ j : Nat, j < n → (wayOf n j).length ≤ q ∧ (q : Int) - 1 ≤ ((wayOf n j).length : Int) := fun j hj => by
      rw [way_in hj hn1.2]
      refine ⟨turns_le q n j (by omega), ?_⟩
      rcases Nat.eq_zero_or_pos q with h | h
      · omega
      · have := turns_ge (q - 1) n j (by
          have e : 2 ^ q = 2 ^ (q - 1) * 2 := by rw [← Nat.pow_succ]; congr 1; omega
          omega)
        omega
    have w1 : wayOf (n : Int) (n : Int) = [] := by unfold wayOf; rw [if_pos (by omega)]
    have w2 : wayOf (n : Int) (-1) = [] := by unfold wayOf; rw [if_pos (by omega)]
    have w1' : (wayOf (n : Int) (n : Int)).length = 0 := by rw [w1]; rfl
    have ha := hl1 i hin
    refine ac_cond (fun hb => ?_) (fun hb => ?_)
    focus
      have e1 : (i : Int) + 1 = ((i + 1 : Nat) : Int) := by omega
      have hbB : (wayOf (n : Int) ((i : Int) + 1)).length ≤ q ∧ (q : Int) - 1 ≤ ((wayOf (n : Int) ((i : Int) + 1)).length : Int) := by rw [e1]; exact hl1 (i + 1) (by omega)
      generalize wayOf (n : Int) (i : Int) = A at *
      repeat' (first | refine op1 ?_ | refine opL ?_ | refine ct1 ?_ | refine ob1 ?_ | refine dr1 hs ?_ | refine ob2 (fun _ => ?_) | intro _ | fail)
    rotate_left
    focus
      generalize wayOf (n : Int) (i : Int) = A at *
      repeat' (first | refine op1 ?_ | refine opL ?_ | refine ct1 ?_ | refine ob1 ?_ | refine dr1 hs ?_ | refine ob2 (fun _ => ?_) | intro _ | fail)
    all_goals
      (refine gu1 (fun _ => ?_) (fun hn => ?_); rotate_left; exfalso; omega)
      repeat' (first | refine op1 ?_ | refine opL ?_ | refine ct1 ?_ | refine ob1 ?_ | refine dr1 hs ?_ | refine ob2 (fun _ => ?_) | intro _ | fail)
      (refine gu1 (fun _ => ?_) (fun hn => ?_); rotate_left; exfalso; omega)
      repeat' (first | refine op1 ?_ | refine opL ?_ | refine ct1 ?_ | refine ob1 ?_ | refine dr1 hs ?_ | refine ob2 (fun _ => ?_) | intro _ | fail)
      (refine gu1 (fun _ => ?_) (fun hn => ?_); rotate_left; exfalso; omega)
      repeat' (first | refine op1 ?_ | refine opL ?_ | refine ct1 ?_ | refine ob1 ?_ | refine dr1 hs ?_ | refine ob2 (fun _ => ?_) | intro _ | fail)
      (refine gu1 (fun _ => ?_) (fun hn => ?_); rotate_left; exfalso; omega)
      repeat' (first | refine op1 ?_ | refine opL ?_ | refine ct1 ?_ | refine ob1 ?_ | refine dr1 hs ?_ | refine ob2 (fun _ => ?_) | intro _ | fail)
      (refine gu1 (fun _ => ?_) (fun hn => ?_); rotate_left; exfalso; omega)
      repeat' (first | refine op1 ?_ | refine opL ?_ | refine ct1 ?_ | refine ob1 ?_ | refine dr1 hs ?_ | refine ob2 (fun _ => ?_) | intro _ | fail)
      refine reE ?_
      rw [w2]
      rfl⟩
end Go.Proofs.YtkijoddconipoaaDoor
