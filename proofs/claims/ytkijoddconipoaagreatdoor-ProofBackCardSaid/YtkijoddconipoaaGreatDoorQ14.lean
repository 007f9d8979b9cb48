/- The references' reader, walked; hashes read. -/
import Derived.Test.YtkijoddconipoaaGreatDoorP1
import Derived.Test.YtkijoddconipoaaGreatDoorP2
import Derived.Test.YtkijoddconipoaaGreatDoorP3
import Derived.Test.YtkijoddconipoaaGreatDoorP4
import Derived.Test.YtkijoddconipoaaGreatDoorP5
import Derived.Test.YtkijoddconipoaaGreatDoorQ1
import Derived.Test.YtkijoddconipoaaGreatDoorQ2
import Derived.Test.YtkijoddconipoaaGreatDoorK1
import Derived.Test.YtkijoddconipoaaGreatDoorQ3
import Derived.Test.YtkijoddconipoaaGreatDoorQ4
import Derived.Test.YtkijoddconipoaaGreatDoorQ5
import Derived.Test.YtkijoddconipoaaGreatDoorQ13
namespace Go.Proofs.YtkijoddconipoaaGreatDoor
open Go Go.RowKit Tw Av
instance rrEnd {g : Nat} {s : Bs} {b : Bool} : AnsM Tryz.prog GL 56 g [] 96 (rdA s b) True (int (reE' s b)) (rdA s b) := ⟨fun _ => by
  refine spec_enter Tryz.func56 rfl Tryz.ntmps56 rfl (fun _ hs => ?_)
  cases b
  · cases s with
    | nil =>
      repeat' (first | refine W ?_ | refine op2 ?_ | refine op6 ?_ | refine ob4 ?_ | refine ob6 ?_ | refine ob2 (fun _ => ?_) | intro _ | simp only [List.set] | refine gdT ?_ | refine gdF ?_ | refine cdT ?_ | refine cdF ?_ | fail)
      exact reK _ ⟨rfl, rfl⟩ (List.Sublist.refl _)
    | cons c s =>
      repeat' (first | refine W ?_ | refine op2 ?_ | refine op6 ?_ | refine ob4 ?_ | refine ob6 ?_ | refine ob2 (fun _ => ?_) | intro _ | simp only [List.set] | refine gdT ?_ | refine gdF ?_ | refine cdT ?_ | refine cdF ?_ | fail)
      exact reK _ ⟨rfl, rfl⟩ (List.Sublist.refl _)
  · repeat' (first | refine W ?_ | refine op2 ?_ | refine op6 ?_ | refine ob4 ?_ | refine ob6 ?_ | refine ob2 (fun _ => ?_) | intro _ | simp only [List.set] | refine gdT ?_ | refine gdF ?_ | refine cdT ?_ | refine cdF ?_ | fail)
    exact reK _ ⟨rfl, rfl⟩ (List.Sublist.refl _)⟩
instance rrText {g : Nat} {s : Bs} {b : Bool} {c most : Int} : AnsM Tryz.prog GL 53 g [.lit (.int .u8 c), int most] 96 (rdA s b) (s.length ≤ 4611686018427387904) (str (rtT c most s b)) (rdA (rsT c most s b) (rbT c most s b)) := ⟨fun hl => by
  refine spec_enter Tryz.func53 rfl Tryz.ntmps53 rfl (fun _ hs => ?_)
  cases b
  rotate_left
  · repeat' (first | refine W ?_ | refine op2 ?_ | refine op6 ?_ | refine ob4 ?_ | refine ob6 ?_ | refine ob2 (fun _ => ?_) | intro _ | simp only [List.set] | refine gdT ?_ | refine gdF ?_ | refine cdT ?_ | refine cdF ?_ | fail)
    refine reK [.var g 96 (rdA s true)] ⟨?_, ?_⟩ (List.Sublist.refl _)
    · rw [rtT, rbT_bad]; rfl
    · rw [rsT, rbT, rbT_bad]; rfl
  rcases s with _ | ⟨s0, _ | ⟨s1, _ | ⟨s2, _ | ⟨s3, r⟩⟩⟩⟩
  · repeat' (first | refine W ?_ | refine op2 ?_ | refine op6 ?_ | refine ob4 ?_ | refine ob6 ?_ | refine ob2 (fun _ => ?_) | intro _ | simp only [List.set] | refine gdT ?_ | refine gdF ?_ | refine cdT ?_ | refine cdF ?_ | fail)
    exact reK [.var g 96 (rdA [] true)] ⟨rfl, rfl⟩ (List.Sublist.refl _)
  · repeat' (first | refine W ?_ | refine op2 ?_ | refine op6 ?_ | refine ob4 ?_ | refine ob6 ?_ | refine ob2 (fun _ => ?_) | intro _ | simp only [List.set] | refine gdT ?_ | refine gdF ?_ | refine cdT ?_ | refine cdF ?_ | fail)
    exact reK [.var g 96 (rdA [s0] true)] ⟨rfl, rfl⟩ (List.Sublist.refl _)
  · repeat' (first | refine W ?_ | refine op2 ?_ | refine op6 ?_ | refine ob4 ?_ | refine ob6 ?_ | refine ob2 (fun _ => ?_) | intro _ | simp only [List.set] | refine gdT ?_ | refine gdF ?_ | refine cdT ?_ | refine cdF ?_ | fail)
    exact reK [.var g 96 (rdA [s0, s1] true)] ⟨rfl, rfl⟩ (List.Sublist.refl _)
  · repeat' (first | refine W ?_ | refine op2 ?_ | refine op6 ?_ | refine ob4 ?_ | refine ob6 ?_ | refine ob2 (fun _ => ?_) | intro _ | simp only [List.set] | refine gdT ?_ | refine gdF ?_ | refine cdT ?_ | refine cdF ?_ | fail)
    exact reK [.var g 96 (rdA [s0, s1, s2] true)] ⟨rfl, rfl⟩ (List.Sublist.refl _)
  have hlen : (s0 :: s1 :: s2 :: s3 :: r).length = r.length + 4 := rfl
  have q1 := s1.toNat_lt
  have q2 := s2.toNat_lt
  have q3 := s3.toNat_lt
  by_cases hc : (s0.toNat : Int) = c
  rotate_left
  · have e : cutT c most false (s0 :: s1 :: s2 :: s3 :: r) = none := by rw [cutT, if_neg (fun h => hc h.2.1)]
    repeat' (first | refine W ?_ | refine op2 ?_ | refine op6 ?_ | refine ob4 ?_ | refine ob6 ?_ | refine ob2 (fun _ => ?_) | intro _ | simp only [List.set] | refine gdT ?_ | refine gdF ?_ | refine cdT ?_ | refine cdF ?_ | fail)
    refine reK [.var g 96 (rdA (s0 :: s1 :: s2 :: s3 :: r) true)] ⟨?_, ?_⟩ (List.Sublist.refl _)
    · rw [rtT, e]; rfl
    · rw [rsT, rbT, e]; rfl
  have hv : (s1.toNat : Int) * 65536 + (s2.toNat : Int) * 256 + (s3.toNat : Int) = (len3 s1 s2 s3 : Nat) := by simp [len3]; omega
  have hlt := len3_lt s1 s2 s3
  have hct : cutT c most false (s0 :: s1 :: s2 :: s3 :: r) = if (len3 s1 s2 s3 : Int) ≤ most ∧ len3 s1 s2 s3 ≤ r.length then some (r.take (len3 s1 s2 s3), r.drop (len3 s1 s2 s3)) else none := by
    rw [cutT]
    simp [hc]
  repeat' (first | refine W ?_ | refine op2 ?_ | refine op6 ?_ | refine ob4 ?_ | refine ob6 ?_ | refine ob2 (fun _ => ?_) | intro _ | simp only [List.set] | refine gdT ?_ | refine gdF ?_ | refine cdT ?_ | refine cdF ?_ | fail)
  rw [hv]
  generalize len3 s1 s2 s3 = n at *
  by_cases h1 : (n : Int) ≤ most
  rotate_left
  · have e : cutT c most false (s0 :: s1 :: s2 :: s3 :: r) = none := by rw [hct, if_neg (fun h => h1 h.1)]
    repeat' (first | refine W ?_ | refine op2 ?_ | refine op6 ?_ | refine ob4 ?_ | refine ob6 ?_ | refine ob2 (fun _ => ?_) | intro _ | simp only [List.set] | refine gdT ?_ | refine gdF ?_ | refine cdT ?_ | refine cdF ?_ | fail)
    refine reK [.var g 96 (rdA (s0 :: s1 :: s2 :: s3 :: r) true)] ⟨?_, ?_⟩ (List.Sublist.refl _)
    · rw [rtT, e]; rfl
    · rw [rsT, rbT, e]; rfl
  by_cases h2 : n ≤ r.length
  rotate_left
  · have e : cutT c most false (s0 :: s1 :: s2 :: s3 :: r) = none := by rw [hct, if_neg (fun h => h2 h.2)]
    repeat' (first | refine W ?_ | refine op2 ?_ | refine op6 ?_ | refine ob4 ?_ | refine ob6 ?_ | refine ob2 (fun _ => ?_) | intro _ | simp only [List.set] | refine gdT ?_ | refine gdF ?_ | refine cdT ?_ | refine cdF ?_ | fail)
    refine reK [.var g 96 (rdA (s0 :: s1 :: s2 :: s3 :: r) true)] ⟨?_, ?_⟩ (List.Sublist.refl _)
    · rw [rtT, e]; rfl
    · rw [rsT, rbT, e]; rfl
  have e : cutT c most false (s0 :: s1 :: s2 :: s3 :: r) = some (r.take n, r.drop n) := by rw [hct, if_pos ⟨h1, h2⟩]
  repeat' (first | refine W ?_ | refine op2 ?_ | refine op6 ?_ | refine ob4 ?_ | refine ob6 ?_ | refine ob2 (fun _ => ?_) | intro _ | simp only [List.set] | refine gdT ?_ | refine gdF ?_ | refine cdT ?_ | refine cdF ?_ | fail)
  refine al_sliceS 4 (4 + n) ?_
  repeat' (first | refine W ?_ | refine op2 ?_ | refine op6 ?_ | refine ob4 ?_ | refine ob6 ?_ | refine ob2 (fun _ => ?_) | intro _ | simp only [List.set] | refine gdT ?_ | refine gdF ?_ | refine cdT ?_ | refine cdF ?_ | fail)
  refine al_sliceS (4 + n) (r.length + 4) ?_
  repeat' (first | refine W ?_ | refine op2 ?_ | refine op6 ?_ | refine ob4 ?_ | refine ob6 ?_ | refine ob2 (fun _ => ?_) | intro _ | simp only [List.set] | refine gdT ?_ | refine gdF ?_ | refine cdT ?_ | refine cdF ?_ | fail)
  refine reK [.var g 96 (rdA (r.drop n) false)] ⟨?_, ?_⟩ ?_
  · rw [rtT, e]
    simp [outOf, Nat.add_comm]
  · rw [rsT, rbT, e]; rfl
  · have e2 : List.drop (4 + n) (List.take (r.length + 4) (s0 :: s1 :: s2 :: s3 :: r)) = r.drop n := by
      rw [List.take_of_length_le (by simp), Nat.add_comm 4 n]
      simp
    rw [e2]
    exact List.Sublist.refl _⟩
instance rrNum {g : Nat} {s : Bs} {b : Bool} {c : Int} : AnsM Tryz.prog GL 100 g [.lit (.int .u8 c)] 96 (rdA s b) (s.length ≤ 4611686018427387904) (.lit (.int .u64 (rnN c s b))) (rdA (rsT c 8 s b) (rnB c s b)) := ⟨fun hl => by
  refine spec_enter Tryz.func100 rfl Tryz.ntmps100 rfl (fun _ hs => ?_)
  repeat' (first | refine W ?_ | refine op2 ?_ | refine op6 ?_ | refine ob4 ?_ | refine ob6 ?_ | refine ob2 (fun _ => ?_) | intro _ | simp only [List.set] | refine gdT ?_ | refine gdF ?_ | refine cdT ?_ | refine cdF ?_ | fail)
  have hx := (rtT_len c 8 s b).2 (by decide)
  rw [rnB, rnN_eq]
  generalize rtT c 8 s b = x at *
  refine ac_loop (α := Nat) (fun i => [(0, ptr g), (5, str x), (6, .lit (.int .u64 (numOf (x.take i) : Nat))), (7, int i)]) (fun _ => [.var g 96 (rdA (rsT c 8 s b) (rbT c 8 s b))])
    (fun i => i ≤ x.length) (fun i => x.length - i) 0 ⟨rfl, rfl, rfl, rfl, trivial⟩ (List.Sublist.refl _) (by omega) ?_
  intro i hi
  repeat' (first | refine W ?_ | refine op2 ?_ | refine op6 ?_ | refine ob4 ?_ | refine ob6 ?_ | refine ob2 (fun _ => ?_) | intro _ | simp only [List.set] | refine gdT ?_ | refine gdF ?_ | refine cdT ?_ | refine cdF ?_ | fail)
  refine ac_cond (fun hlt => ?_) (fun hlt => ?_)
  · have hil : i < x.length := by omega
    have h1 := numOf_take hil
    have h2 := x[i].toNat_lt
    have h3 := numOf_small (l := x.take (i + 1)) (by simp; omega)
    repeat' (first | refine W ?_ | refine op2 ?_ | refine op6 ?_ | refine ob4 ?_ | refine ob6 ?_ | refine ob2 (fun _ => ?_) | intro _ | simp only [List.set] | refine gdT ?_ | refine gdF ?_ | refine cdT ?_ | refine cdF ?_ | fail)
    refine al_idxS i ?_ (List.getElem?_eq_getElem hil)
    repeat' (first | refine W ?_ | refine op2 ?_ | refine op6 ?_ | refine ob4 ?_ | refine ob6 ?_ | refine ob2 (fun _ => ?_) | intro _ | simp only [List.set] | refine gdT ?_ | refine gdF ?_ | refine cdT ?_ | refine cdF ?_ | fail)
    refine ae_round (i + 1) ⟨rfl, rfl, ?_, rfl, trivial⟩ (List.Sublist.refl _) hil (by omega)
    rw [h1]
    rfl
  · obtain rfl : i = x.length := by omega
    rw [List.take_length]
    have hdg := digits_num (l := x) (by omega)
    have hns := numOf_small (l := x) (by omega)
    repeat' (first | refine W ?_ | refine op2 ?_ | refine op6 ?_ | refine ob4 ?_ | refine ob6 ?_ | refine ob2 (fun _ => ?_) | intro _ | simp only [List.set] | refine gdT ?_ | refine gdF ?_ | refine cdT ?_ | refine cdF ?_ | fail)
    cases h0 : lead0 x
    · have e := hdg.2 h0
      refine ac_cond (fun h => absurd e h) (fun _ => ?_)
      repeat' (first | refine W ?_ | refine op2 ?_ | refine op6 ?_ | refine ob4 ?_ | refine ob6 ?_ | refine ob2 (fun _ => ?_) | intro _ | simp only [List.set] | refine gdT ?_ | refine gdF ?_ | refine cdT ?_ | refine cdF ?_ | fail)
      refine reK [.var g 96 (rdA (rsT c 8 s b) (rbT c 8 s b))] ⟨rfl, ?_⟩ (List.Sublist.refl _)
      simp
    · refine ac_cond (fun _ => ?_) (fun h => ?_)
      rotate_left
      · exact absurd (hdg.1 (Classical.not_not.1 h)) (by rw [h0]; simp)
      repeat' (first | refine W ?_ | refine op2 ?_ | refine op6 ?_ | refine ob4 ?_ | refine ob6 ?_ | refine ob2 (fun _ => ?_) | intro _ | simp only [List.set] | refine gdT ?_ | refine gdF ?_ | refine cdT ?_ | refine cdF ?_ | fail)
      refine reK [.var g 96 (rdA (rsT c 8 s b) true)] ⟨rfl, ?_⟩ (List.Sublist.refl _)
      simp⟩
theorem rnB_zero {c : Int} {s : Bs} {b : Bool} (h : rnB c s b = true) : rnN c s b = 0 := by
  rw [rnN_eq]
  unfold rnB at h
  rcases Bool.or_eq_true_iff.1 h with h | h
  · have : rtT c 8 s b = [] := by
      unfold rbT at h
      rw [rtT, Option.isNone_iff_eq_none.1 h]
      rfl
    rw [this]
    rfl
  · rw [if_pos h]
instance rrInt {g : Nat} {s : Bs} {b : Bool} {c most : Int} : AnsM Tryz.prog GL 54 g [.lit (.int .u8 c), int most] 96 (rdA s b) (s.length ≤ 4611686018427387904 ∧ 0 ≤ most ∧ most ≤ 9223372036854775807) (int (riI c most s b)) (rdA (rsT c 8 s b) (riB c most s b)) := ⟨fun hp => by
  obtain ⟨hl, h0, h1⟩ := hp
  refine spec_enter Tryz.func54 rfl Tryz.ntmps54 rfl (fun _ hs => ?_)
  repeat' (first | refine W ?_ | refine op2 ?_ | refine op6 ?_ | refine ob4 ?_ | refine ob6 ?_ | refine ob2 (fun _ => ?_) | intro _ | simp only [List.set] | refine gdT ?_ | refine gdF ?_ | refine cdT ?_ | refine cdF ?_ | fail)
  have hx := rnN_lt c s b
  have hz := rnB_zero (c := c) (s := s) (b := b)
  rw [riI, riB]
  generalize rnN c s b = n at *
  by_cases h : most < (n : Int)
  · rw [if_pos h, decide_eq_true h]
    repeat' (first | refine W ?_ | refine op2 ?_ | refine op6 ?_ | refine ob4 ?_ | refine ob6 ?_ | refine ob2 (fun _ => ?_) | intro _ | simp only [List.set] | refine gdT ?_ | refine gdF ?_ | refine cdT ?_ | refine cdF ?_ | fail)
    refine reK [.var g 96 (rdA (rsT c 8 s b) true)] ⟨rfl, ?_⟩ (List.Sublist.refl _)
    simp
  · rw [if_neg h, decide_eq_false h]
    cases hb : rnB c s b
    · repeat' (first | refine W ?_ | refine op2 ?_ | refine op6 ?_ | refine ob4 ?_ | refine ob6 ?_ | refine ob2 (fun _ => ?_) | intro _ | simp only [List.set] | refine gdT ?_ | refine gdF ?_ | refine cdT ?_ | refine cdF ?_ | fail)
      refine reK [.var g 96 (rdA (rsT c 8 s b) false)] ⟨rfl, ?_⟩ (List.Sublist.refl _)
      simp
    · obtain rfl := hz hb
      repeat' (first | refine W ?_ | refine op2 ?_ | refine op6 ?_ | refine ob4 ?_ | refine ob6 ?_ | refine ob2 (fun _ => ?_) | intro _ | simp only [List.set] | refine gdT ?_ | refine gdF ?_ | refine cdT ?_ | refine cdF ?_ | fail)
      refine reK [.var g 96 (rdA (rsT c 8 s b) true)] ⟨rfl, ?_⟩ (List.Sublist.refl _)
      simp⟩
theorem rtT_most {c : Int} {s : Bs} {b : Bool} : rtT c 16777216 s b = rtT c 16777215 s b ∧ rsT c 16777216 s b = rsT c 16777215 s b ∧ rbT c 16777216 s b = rbT c 16777215 s b := by
  have h : cutT c 16777216 b s = cutT c 16777215 b s := by
    unfold cutT
    split
    · rename_i s0 s1 s2 s3 r
      have := len3_lt s1 s2 s3
      by_cases h1 : b = false ∧ (s0.toNat : Int) = c ∧ len3 s1 s2 s3 ≤ r.length
      · rw [if_pos ⟨h1.1, h1.2.1, by omega, h1.2.2⟩, if_pos ⟨h1.1, h1.2.1, by omega, h1.2.2⟩]
      · rw [if_neg (fun h => h1 ⟨h.1, h.2.1, h.2.2.2⟩), if_neg (fun h => h1 ⟨h.1, h.2.1, h.2.2.2⟩)]
    · rfl
  unfold rtT rsT rbT
  rw [h]
  exact ⟨rfl, rfl, rfl⟩
instance rrAll {g : Nat} {s : Bs} {b : Bool} {c many most : Int} : AnsM Tryz.prog GL 55 g [.lit (.int .u8 c), int many, int most] 96 (rdA s b) (s.length ≤ 1000000000) (.sl 1 ((raL c many most s b).map str) none) (rdA (rsT c 16777215 s b) (raB c many most s b)) := ⟨fun hl => by
  refine spec_enter Tryz.func55 rfl Tryz.ntmps55 rfl (fun _ hs => ?_)
  repeat' (first | refine W ?_ | refine op2 ?_ | refine op6 ?_ | refine ob4 ?_ | refine ob6 ?_ | refine ob2 (fun _ => ?_) | intro _ | simp only [List.set] | refine gdT ?_ | refine gdF ?_ | refine cdT ?_ | refine cdF ?_ | fail)
  rw [rtT_most.1, rtT_most.2.1, rtT_most.2.2]
  have hx := (rtT_len c 16777215 s b).1
  have hx2 := (rsT_len c 16777215 s b).1
  rw [raL, raB]
  generalize rtT c 16777215 s b = x at *
  generalize rsT c 16777215 s b = s1 at *
  generalize rbT c 16777215 s b = b1 at *
  generalize hX : allX c most x = X at *
  rename_i gr
  refine ac_as 10 (Imp.nil (k := 1)) ?_
  refine ac_st (fun ok w h => h.full 9 1 none 0) ?_
  refine ac_midB (α := Value × Bs) (fun q => [(0, ptr g), (2, int many), (9, ptr gr), (10, .sl 1 (X.1.map str) (some q.1))]) (fun q => [.tail 9 1 q.1, .var gr 96 (rdA q.2 X.2), .var g 96 (rdA s1 b1)]) ?_ (fun q => ?_)
  rotate_left
  · rcases q with ⟨v, s2⟩
    dsimp only
    have hml : (X.1.map str).length = X.1.length := List.length_map _
    unfold outA badA
    cases hq : X.2
    · by_cases hm : many < (X.1.length : Int)
      · rw [decide_eq_true hm, Bool.or_true, Bool.or_true, if_pos rfl]
        repeat' (first | refine W ?_ | refine op2 ?_ | refine op6 ?_ | refine ob4 ?_ | refine ob6 ?_ | refine ob2 (fun _ => ?_) | intro _ | simp only [List.set] | refine gdT ?_ | refine gdF ?_ | refine cdT ?_ | refine cdF ?_ | fail)
        refine reIKm (.sl 1 [] none) [.var g 96 (rdA s1 true)] ?_ ⟨rfl, rfl⟩ ?_
        focus
          exact Imp.nilN
        repeat (first | exact List.nil_sublist _ | exact List.Sublist.refl _ | apply List.Sublist.cons_cons | apply List.Sublist.cons)
      · rw [decide_eq_false hm, Bool.or_false, Bool.or_false]
        cases b1
        · repeat' (first | refine W ?_ | refine op2 ?_ | refine op6 ?_ | refine ob4 ?_ | refine ob6 ?_ | refine ob2 (fun _ => ?_) | intro _ | simp only [List.set] | refine gdT ?_ | refine gdF ?_ | refine cdT ?_ | refine cdF ?_ | fail)
          refine reIKm (.sl 1 (X.1.map str) none) [.var g 96 (rdA s1 false)] ?_ ⟨rfl, rfl⟩ ?_
          focus
            exact Imp.sl
          repeat (first | exact List.nil_sublist _ | exact List.Sublist.refl _ | apply List.Sublist.cons_cons | apply List.Sublist.cons)
        · repeat' (first | refine W ?_ | refine op2 ?_ | refine op6 ?_ | refine ob4 ?_ | refine ob6 ?_ | refine ob2 (fun _ => ?_) | intro _ | simp only [List.set] | refine gdT ?_ | refine gdF ?_ | refine cdT ?_ | refine cdF ?_ | fail)
          refine reIKm (.sl 1 [] none) [.var g 96 (rdA s1 true)] ?_ ⟨rfl, rfl⟩ ?_
          focus
            exact Imp.nilN
          repeat (first | exact List.nil_sublist _ | exact List.Sublist.refl _ | apply List.Sublist.cons_cons | apply List.Sublist.cons)
    · rw [Bool.true_or, Bool.or_true, if_pos rfl]
      repeat' (first | refine W ?_ | refine op2 ?_ | refine op6 ?_ | refine ob4 ?_ | refine ob6 ?_ | refine ob2 (fun _ => ?_) | intro _ | simp only [List.set] | refine gdT ?_ | refine gdF ?_ | refine cdT ?_ | refine cdF ?_ | fail)
      refine reIKm (.sl 1 [] none) [.var g 96 (rdA s1 true)] ?_ ⟨rfl, rfl⟩ ?_
      focus
        exact Imp.nilN
      repeat (first | exact List.nil_sublist _ | exact List.Sublist.refl _ | apply List.Sublist.cons_cons | apply List.Sublist.cons)
  refine ac_loop (α := List Bs × Value × Bs × Bool × Nat) (fun q => [(0, ptr g), (1, .lit (.int .u8 c)), (2, int many), (3, int most), (9, ptr gr), (10, .sl 1 (q.1.map str) (some q.2.1))])
      (fun q => [.tail 9 1 q.2.1, .var gr 96 (rdA q.2.2.1 q.2.2.2.1), .var g 96 (rdA s1 b1)])
      (fun q => X = (q.1 ++ (bods c most q.2.2.2.2 q.2.2.1 q.2.2.2.1).1, (bods c most q.2.2.2.2 q.2.2.1 q.2.2.2.1).2) ∧ (q.2.2.2.1 = false → q.2.2.1.length < q.2.2.2.2) ∧ (q.2.2.2.1 = false → q.1.length + q.2.2.1.length ≤ x.length) ∧ q.1.length ≤ x.length) (fun q => q.2.2.2.2) ([], .slice none 0 0, x, false, x.length + 1) ⟨rfl, rfl, rfl, rfl, rfl, rfl, trivial⟩ (List.Sublist.refl _) ⟨hX.symm, fun _ => by dsimp only; omega, fun _ => by simp, by simp⟩ ?_
  rintro ⟨acc, v, s2, b2, f⟩ ⟨e1, e2, e3, e4⟩
  dsimp only at e1 e2 e3 e4 ⊢
  cases b2
  rotate_left
  · rw [bods_bad, List.append_nil] at e1
    subst e1
    cases s2 with
    | nil =>
      repeat' (first | refine W ?_ | refine op2 ?_ | refine op6 ?_ | refine ob4 ?_ | refine ob6 ?_ | refine ob2 (fun _ => ?_) | intro _ | simp only [List.set] | refine gdT ?_ | refine gdF ?_ | refine cdT ?_ | refine cdF ?_ | fail)
      refine ae_cut (v, []) ⟨rfl, rfl, rfl, rfl, trivial⟩ ?_
      repeat (first | exact List.nil_sublist _ | exact List.Sublist.refl _ | apply List.Sublist.cons_cons | apply List.Sublist.cons)
    | cons a s2 =>
      repeat' (first | refine W ?_ | refine op2 ?_ | refine op6 ?_ | refine ob4 ?_ | refine ob6 ?_ | refine ob2 (fun _ => ?_) | intro _ | simp only [List.set] | refine gdT ?_ | refine gdF ?_ | refine cdT ?_ | refine cdF ?_ | fail)
      refine ae_cut (v, a :: s2) ⟨rfl, rfl, rfl, rfl, trivial⟩ ?_
      repeat (first | exact List.nil_sublist _ | exact List.Sublist.refl _ | apply List.Sublist.cons_cons | apply List.Sublist.cons)
  have e2 := e2 rfl
  have e3 := e3 rfl
  rcases f with _ | f
  · omega
  cases s2 with
  | nil =>
    rw [bods_nil, List.append_nil] at e1
    subst e1
    repeat' (first | refine W ?_ | refine op2 ?_ | refine op6 ?_ | refine ob4 ?_ | refine ob6 ?_ | refine ob2 (fun _ => ?_) | intro _ | simp only [List.set] | refine gdT ?_ | refine gdF ?_ | refine cdT ?_ | refine cdF ?_ | fail)
    refine ae_cut (v, []) ⟨rfl, rfl, rfl, rfl, trivial⟩ ?_
    repeat (first | exact List.nil_sublist _ | exact List.Sublist.refl _ | apply List.Sublist.cons_cons | apply List.Sublist.cons)
  | cons a s2 =>
    rw [bods_cons] at e1
    have hle := (rsT_len c most (a :: s2) false).1
    have hlt := rsT_dec (c := c) (most := most) (s := a :: s2) (b := false)
    have hl3 : (a :: s2).length = s2.length + 1 := rfl
    have hma : (acc.map str).length = acc.length := List.length_map _
    repeat' (first | refine W ?_ | refine op2 ?_ | refine op6 ?_ | refine ob4 ?_ | refine ob6 ?_ | refine ob2 (fun _ => ?_) | intro _ | simp only [List.set] | refine gdT ?_ | refine gdF ?_ | refine cdT ?_ | refine cdF ?_ | fail)
    refine al_append (fun v' => ?_)
    repeat' (first | refine W ?_ | refine op2 ?_ | refine op6 ?_ | refine ob4 ?_ | refine ob6 ?_ | refine ob2 (fun _ => ?_) | intro _ | simp only [List.set] | refine gdT ?_ | refine gdF ?_ | refine cdT ?_ | refine cdF ?_ | fail)
    refine ae_round (acc ++ [rtT c most (a :: s2) false], v', rsT c most (a :: s2) false, rbT c most (a :: s2) false, f) ⟨rfl, rfl, rfl, rfl, rfl, ?_, trivial⟩ (List.Sublist.refl _) ⟨by simpa using e1, fun h => ?_, fun h => ?_, ?_⟩ (by dsimp only; omega)
    · rw [List.map_append]; rfl
    · have := hlt h
      dsimp only
      omega
    · have := hlt h
      simp only [List.length_append, List.length_cons, List.length_nil] at *
      omega
    · simp only [List.length_append, List.length_cons, List.length_nil] at *
      omega⟩
end Go.Proofs.YtkijoddconipoaaGreatDoor

namespace Av
open Go Go.RowKit Tw
theorem findP_at : ∀ (pre : List AV) (i : Nat) (p : AV) (post : List AV) (j : Nat), j < p.size → findP (pre ++ p :: post) i ((pre.map AV.size).sum + j) = some (i + pre.length, p, j)
  | [], i, p, post, j, h => by
    have hb : Nat.ble p.size j = false := by
      cases hh : Nat.ble p.size j with
      | false => rfl
      | true => have := Nat.le_of_ble_eq_true hh; omega
    simp [findP, hb]
  | q :: pre, i, p, post, j, h => by
    have hb : Nat.ble q.size (((q :: pre).map AV.size).sum + j) = true := Nat.ble_eq_true_of_le (by simp; omega)
    rw [List.cons_append, findP, hb, cond_true]
    have e : ((q :: pre).map AV.size).sum + j - q.size = (pre.map AV.size).sum + j := by simp; omega
    rw [e, findP_at pre (i + 1) p post j h]
    simp
    omega
theorem sum_u8 : ∀ l : Bs, ((l.map u8A).map AV.size).sum = l.length
  | [] => rfl
  | c :: l => by simp only [List.map_cons, List.sum_cons, List.length_cons, sum_u8 l]; show 1 + _ = _; omega
theorem set_mid {α : Type} (pre post : List α) (a b : α) : (pre ++ a :: post).set pre.length b = pre ++ b :: post := by simp
theorem set_at {α : Type} (l : List α) (j : Nat) (h : j < l.length) (b : α) : (l.take j ++ l[j] :: l.drop (j + 1)).set j b = l.set j b := by
  have := List.take_append_drop j l
  rw [List.drop_eq_getElem_cons h] at this
  rw [this]
/-- a byte laid into an array within a struct -/
theorem putV_arr {n : Nat} {pre post : List AV} {l : Bs} {j o : Nat} {c : UInt8} (hj : j < l.length) (ho : o = (pre.map AV.size).sum + j) : putV (u8A c) 8 (.agg n (pre ++ .agg l.length (l.map u8A) :: post)) o = some (.agg n (pre ++ .agg l.length ((l.set j c).map u8A) :: post)) := by
  subst ho
  have h1 : findP (pre ++ .agg l.length (l.map u8A) :: post) 0 ((pre.map AV.size).sum + j) = some (0 + pre.length, .agg l.length (l.map u8A), j) := findP_at pre 0 _ post j hj
  have hm : j < (l.map u8A).length := by simpa using hj
  have h2 : findP (l.map u8A) 0 j = some (j, u8A l[j], 0) := by
    have h := findP_at ((l.take j).map u8A) 0 (u8A l[j]) ((l.drop (j + 1)).map u8A) 0 (by show 0 < 1; omega)
    rw [sum_u8] at h
    have e : (l.take j).map u8A ++ u8A l[j] :: (l.drop (j + 1)).map u8A = l.map u8A := by
      rw [← List.map_cons, ← List.map_append, ← List.drop_eq_getElem_cons hj, List.take_append_drop]
    rw [e] at h
    simpa [Nat.min_eq_left (Nat.le_of_lt hj)] using h
  have h3 : putV (u8A c) 6 (u8A l[j]) 0 = some (u8A c) := rfl
  have h4 : putV (u8A c) 7 (.agg l.length (l.map u8A)) j = some (.agg l.length ((l.set j c).map u8A)) := by
    unfold putV
    rw [show ((AV.agg l.length (l.map u8A)).isAgg == (u8A c).isAgg) = false from rfl, Bool.and_false, cond_false]
    dsimp only
    rw [h2]
    dsimp only
    rw [h3]
    dsimp only
    rw [List.map_set]
  unfold putV
  rw [show ((AV.agg n (pre ++ AV.agg l.length (l.map u8A) :: post)).isAgg == (u8A c).isAgg) = false from rfl, Bool.and_false, cond_false]
  dsimp only
  rw [h1]
  dsimp only
  rw [h4]
  dsimp only
  rw [Nat.zero_add, set_mid]
theorem putV_arrK {n k : Nat} {pre post : List AV} {l : Bs} {j o : Nat} {c : UInt8} (hk : l.length = k) (hj : j < l.length) (ho : o = (pre.map AV.size).sum + j) : putV (u8A c) 8 (.agg n (pre ++ .agg k (l.map u8A) :: post)) o = some (.agg n (pre ++ .agg k ((l.set j c).map u8A) :: post)) := by
  subst hk
  exact putV_arr hj ho
end Av
namespace Go.Proofs.YtkijoddconipoaaGreatDoor
open Go Go.RowKit Tw Av
def hOf (x : Bs) : Hsh := if h : x.length = 32 then ⟨x, h⟩ else zeroH
theorem hOf_l {x : Bs} (h : x.length = 32) : (hOf x).l = x := by unfold hOf; rw [dif_pos h]
instance fnFrom {x : Bs} : Ans Tryz.prog GL 73 [str x] True (.tup [hA (hOf x), int (if x.length = 32 then 0 else 10)]) := ⟨fun _ => by
  refine spec_enter Tryz.func73 rfl Tryz.ntmps73 rfl (fun _ hs => ?_)
  repeat' (first | refine W ?_ | refine op2 ?_ | refine op6 ?_ | refine ob4 ?_ | refine ob6 ?_ | refine ob2 (fun _ => ?_) | intro _ | simp only [List.set] | refine gdT ?_ | refine gdF ?_ | refine cdT ?_ | refine cdF ?_ | fail)
  by_cases h : x.length = 32
  · rw [if_pos h]
    repeat' (first | refine W ?_ | refine op2 ?_ | refine op6 ?_ | refine ob4 ?_ | refine ob6 ?_ | refine ob2 (fun _ => ?_) | intro _ | simp only [List.set] | refine gdT ?_ | refine gdF ?_ | refine cdT ?_ | refine cdF ?_ | fail)
    rename_i g2 g4
    refine al_copyS (l := zeros 32) (a := x) rfl ?_
    repeat' (first | refine W ?_ | refine op2 ?_ | refine op6 ?_ | refine ob4 ?_ | refine ob6 ?_ | refine ob2 (fun _ => ?_) | intro _ | simp only [List.set] | refine gdT ?_ | refine gdF ?_ | refine cdT ?_ | refine cdF ?_ | fail)
    refine reE ?_
    have e : copyB (zeros 32) x = x := by
      unfold copyB
      rw [List.take_of_length_le (by simp [zeros, h]), List.drop_of_length_le (by simp [zeros, h]), List.append_nil]
    rw [e, hA, hOf_l h]
    rfl
  · rw [if_neg h]
    repeat' (first | refine W ?_ | refine op2 ?_ | refine op6 ?_ | refine ob4 ?_ | refine ob6 ?_ | refine ob2 (fun _ => ?_) | intro _ | simp only [List.set] | refine gdT ?_ | refine gdF ?_ | refine cdT ?_ | refine cdF ?_ | fail)
    refine reE ?_
    unfold hOf
    rw [dif_neg h]
    rfl⟩
def tlvA (c : Int) (l : List Bs) : Bs := tlvT c (l.flatMap (tlvT c))
theorem tlvT_len (c : Int) (s : Bs) : (tlvT c s).length ≤ 16777219 := by simp [tlvT, tlvText, bodyLen, List.length_take]; omega
instance {c : Int} {l : List Bs} : LenLe (tlvA c l) 16777219 := ⟨tlvT_len _ _⟩
theorem flat_len (c : Int) : ∀ l : List Bs, (l.flatMap (tlvT c)).length ≤ l.length * 16777219
  | [] => by simp
  | s :: l => by
    have h1 := tlvT_len c s
    have h2 := flat_len c l
    rw [List.flatMap_cons, List.length_append, List.length_cons, Nat.add_mul]
    omega
instance fnTAll {c : Int} {l : List Bs} {xs : List AV} {id : Option Value} [hx : Strs xs l] : Ans Tryz.prog GL 62 [.lit (.int .u8 c), .sl 1 xs id] ((0 ≤ c ∧ c < 256) ∧ l.length ≤ 8000000) (str (tlvA c l)) := ⟨fun hp => by
  obtain ⟨hc, hl⟩ := hp
  have h := hx.out
  subst h
  have hm : (l.map str).length = l.length := List.length_map _
  refine spec_enter Tryz.func62 rfl Tryz.ntmps62 rfl (fun _ hs => ?_)
  repeat' (first | refine W ?_ | refine op2 ?_ | refine op6 ?_ | refine ob4 ?_ | refine ob6 ?_ | refine ob2 (fun _ => ?_) | intro _ | simp only [List.set] | refine gdT ?_ | refine gdF ?_ | refine cdT ?_ | refine cdF ?_ | fail)
  rename_i g5
  refine ac_loop (α := Nat × {m : List Av.Piece // True}) (fun q => [(0, .lit (.int .u8 c)), (5, ptr g5), (8, .sl 1 (l.map str) id), (9, int l.length), (10, int q.1)]) (fun q => q.2.1) (fun q => q.1 ≤ l.length ∧ Bld g5 ((l.take q.1).flatMap (tlvT c)) q.2.1) (fun q => l.length - q.1) (0, ⟨[.var g5 142 (.agg 2 [.lit (.pointer none), nils])], trivial⟩) ⟨rfl, rfl, rfl, by rw [← hm]; rfl, rfl, trivial⟩ (List.Sublist.refl _) ⟨Nat.zero_le _, none, .inl rfl, .inl ⟨rfl, rfl⟩⟩ ?_
  rintro ⟨i, m, _⟩ ⟨h1, h2⟩
  dsimp only at h1 h2 ⊢
  repeat' (first | refine W ?_ | refine op2 ?_ | refine op6 ?_ | refine ob4 ?_ | refine ob6 ?_ | refine ob2 (fun _ => ?_) | intro _ | simp only [List.set] | refine gdT ?_ | refine gdF ?_ | refine cdT ?_ | refine cdF ?_ | fail)
  refine ac_cond (fun hlt => ?_) (fun hlt => ?_)
  · have hil : i < l.length := by omega
    have hfl := flat_len c (l.take i)
    have hfl2 := tlvT_len c l[i]
    have hti : (l.take i).length ≤ l.length := by simp; omega
    repeat' (first | refine W ?_ | refine op2 ?_ | refine op6 ?_ | refine ob4 ?_ | refine ob6 ?_ | refine ob2 (fun _ => ?_) | intro _ | simp only [List.set] | refine gdT ?_ | refine gdF ?_ | refine cdT ?_ | refine cdF ?_ | fail)
    refine al_callK (args := [ptr g5, str (tlvT c l[i])]) m [] (by rw [hs]; exact bwrite h2 (by omega)) (fun u m1 hh => ?_) (by rw [List.append_nil])
    obtain ⟨rfl, hb⟩ := hh
    rw [List.append_nil]
    repeat' (first | refine W ?_ | refine op2 ?_ | refine op6 ?_ | refine ob4 ?_ | refine ob6 ?_ | refine ob2 (fun _ => ?_) | intro _ | simp only [List.set] | refine gdT ?_ | refine gdF ?_ | refine cdT ?_ | refine cdF ?_ | fail)
    refine ae_round (i + 1, ⟨m1, trivial⟩) ⟨rfl, rfl, rfl, rfl, rfl, trivial⟩ (List.Sublist.refl _) ⟨hil, ?_⟩ (by dsimp only; omega)
    rw [List.take_succ_eq_append_getElem hil, List.flatMap_append]
    simpa using hb
  · obtain rfl : i = l.length := by omega
    rw [List.take_length] at h2
    have hfl := flat_len c l
    repeat' (first | refine W ?_ | refine op2 ?_ | refine op6 ?_ | refine ob4 ?_ | refine ob6 ?_ | refine ob2 (fun _ => ?_) | intro _ | simp only [List.set] | refine gdT ?_ | refine gdF ?_ | refine cdT ?_ | refine cdF ?_ | fail)
    refine al_callK (args := [ptr g5]) m [] (by rw [hs]; exact bstring h2 (by omega)) (fun u m1 hh => ?_) (by rw [List.append_nil])
    subst hh
    repeat' (first | refine W ?_ | refine op2 ?_ | refine op6 ?_ | refine ob4 ?_ | refine ob6 ?_ | refine ob2 (fun _ => ?_) | intro _ | simp only [List.set] | refine gdT ?_ | refine gdF ?_ | refine cdT ?_ | refine cdF ?_ | fail)
    refine reE ?_
    rfl⟩
instance fnRAll {c : Int} {l : List Bs} {xs : List AV} {id : Option Value} [hx : Strs xs l] : Ans Tryz.prog GL 66 [.lit (.int .u8 c), .sl 1 xs id] (l.length ≤ 8000000) (str (tlvA c l)) := ⟨fun hl => by
  have h := hx.out
  subst h
  have hm : (l.map str).length = l.length := List.length_map _
  refine spec_enter Tryz.func66 rfl Tryz.ntmps66 rfl (fun _ hs => ?_)
  repeat' (first | refine W ?_ | refine op2 ?_ | refine op6 ?_ | refine ob4 ?_ | refine ob6 ?_ | refine ob2 (fun _ => ?_) | intro _ | simp only [List.set] | refine gdT ?_ | refine gdF ?_ | refine cdT ?_ | refine cdF ?_ | fail)
  refine ac_loop (α := Nat) (fun i => [(0, .lit (.int .u8 c)), (1, .sl 1 (l.map str) id), (5, str ((l.take i).flatMap (tlvT c))), (6, int i)]) (fun _ => []) (fun i => i ≤ l.length) (fun i => l.length - i) 0 ⟨rfl, rfl, rfl, rfl, trivial⟩ (List.Sublist.refl _) (Nat.zero_le _) ?_
  intro i hi
  repeat' (first | refine W ?_ | refine op2 ?_ | refine op6 ?_ | refine ob4 ?_ | refine ob6 ?_ | refine ob2 (fun _ => ?_) | intro _ | simp only [List.set] | refine gdT ?_ | refine gdF ?_ | refine cdT ?_ | refine cdF ?_ | fail)
  refine ac_cond (fun hlt => ?_) (fun hlt => ?_)
  · have hil : i < l.length := by omega
    have hfl := flat_len c (l.take i)
    have hfl2 := tlvT_len c l[i]
    have hti : (l.take i).length ≤ l.length := by simp; omega
    repeat' (first | refine W ?_ | refine op2 ?_ | refine op6 ?_ | refine ob4 ?_ | refine ob6 ?_ | refine ob2 (fun _ => ?_) | intro _ | simp only [List.set] | refine gdT ?_ | refine gdF ?_ | refine cdT ?_ | refine cdF ?_ | fail)
    refine ae_round (i + 1) ⟨rfl, rfl, ?_, rfl, trivial⟩ (List.Sublist.refl _) hil (by omega)
    rw [List.take_succ_eq_append_getElem hil, List.flatMap_append]
    simp
    rfl
  · obtain rfl : i = l.length := by omega
    rw [List.take_length]
    repeat' (first | refine W ?_ | refine op2 ?_ | refine op6 ?_ | refine ob4 ?_ | refine ob6 ?_ | refine ob2 (fun _ => ?_) | intro _ | simp only [List.set] | refine gdT ?_ | refine gdF ?_ | refine cdT ?_ | refine cdF ?_ | fail)
    refine reE ?_
    rfl⟩
def layB (x : Bs) (i : Nat) : Bs := x.take i ++ zeros (32 - i)
theorem layB_len {x : Bs} {i : Nat} (hx : x.length = 32) (hi : i ≤ 32) : (layB x i).length = 32 := by simp [layB, zeros, hx]; omega
theorem layB_next {x : Bs} {i : Nat} (hx : x.length = 32) (hi : i < 32) : (layB x i).set i (x[i]'(by omega)) = layB x (i + 1) := by
  unfold layB
  have h1 : (x.take i).length = i := by simp [hx]; omega
  have h2 : ∀ (a b : List UInt8) (j : Nat) (c : UInt8), a.length = j → (a ++ b).set j c = a ++ b.set 0 c := fun a b j c h => by
    subst h
    simp
  rw [h2 _ _ _ _ h1, List.take_succ_eq_append_getElem (by omega), List.append_assoc]
  congr 1
  rw [show 32 - i = (32 - (i + 1)) + 1 by omega]
  rfl
theorem layB_all {x : Bs} (hx : x.length = 32) : layB x 32 = x := by
  unfold layB
  rw [List.take_of_length_le (by omega), Nat.sub_self]
  simp [zeros]
end Go.Proofs.YtkijoddconipoaaGreatDoor

namespace Go.Proofs.YtkijoddconipoaaGreatDoor
open Go Go.RowKit Tw Av
theorem tlvT_cons {c : Int} {s : Bs} (h : s.length ≤ 16777215) : tlvT c s = UInt8.ofNat c.toNat :: UInt8.ofNat (s.length / 65536) :: UInt8.ofNat (s.length / 256) :: UInt8.ofNat s.length :: s := by
  unfold tlvT tlvText
  rw [List.take_of_length_le (by simp [bodyLen]; omega)]
theorem len3_of {n : Nat} (h : n ≤ 16777215) : len3 (UInt8.ofNat (n / 65536)) (UInt8.ofNat (n / 256)) (UInt8.ofNat n) = n := by
  unfold len3
  rw [UInt8.toNat_ofNat', UInt8.toNat_ofNat', UInt8.toNat_ofNat']
  omega
theorem cut_tlvT {c most : Int} {s r : Bs} (h0 : 0 ≤ c) (h1 : c < 256) (h2 : (s.length : Int) ≤ most) (h3 : s.length ≤ 16777215) : cutT c most false (tlvT c s ++ r) = some (s, r) := by
  rw [tlvT_cons h3]
  simp only [List.cons_append]
  rw [cutT, len3_of h3, if_pos]
  · simp
  · refine ⟨rfl, ?_, h2, by simp⟩
    rw [UInt8.toNat_ofNat']
    omega
theorem rd_tlvT {c most : Int} {s r : Bs} (h0 : 0 ≤ c) (h1 : c < 256) (h2 : (s.length : Int) ≤ most) (h3 : s.length ≤ 16777215) : rtT c most (tlvT c s ++ r) false = s ∧ rsT c most (tlvT c s ++ r) false = r ∧ rbT c most (tlvT c s ++ r) false = false := by
  have h := cut_tlvT (r := r) h0 h1 h2 h3
  unfold rtT rsT rbT
  rw [h]
  exact ⟨rfl, rfl, rfl⟩
theorem digitsF_len : ∀ f n, (digitsF f n).length ≤ f
  | 0, _ => Nat.le_refl _
  | f + 1, n => by
    rw [digitsF]
    split
    · simp
    · have := digitsF_len f (n / 256)
      simp
      omega
theorem digitsF_num : ∀ f n, n < 256 ^ f → numOf (digitsF f n) = n
  | 0, n, h => by simp at h; subst h; rfl
  | f + 1, n, h => by
    rw [digitsF]
    split
    · rename_i h0
      subst h0
      rfl
    · rw [numOf_snoc, digitsF_num f (n / 256) (by rw [Nat.pow_succ] at h; omega), UInt8.toNat_ofNat']
      omega
theorem rd_tlvI {c most : Int} {n : Int} {r : Bs} (h0 : 0 ≤ c) (h1 : c < 256) (h2 : 0 ≤ n) (h3 : n ≤ most) (h4 : most ≤ 9223372036854775807) : riI c most (tlvI c n ++ r) false = n ∧ rsT c 8 (tlvI c n ++ r) false = r ∧ riB c most (tlvI c n ++ r) false = false := by
  have hd : (digits n.toNat).length ≤ 8 := digitsF_len 8 _
  have hn : numOf (digits n.toNat) = n.toNat := digitsF_num 8 _ (by show n.toNat < 18446744073709551616; omega)
  have hl : lead0 (digits n.toNat) = false := digits_lead 8 _ (by show n.toNat < 18446744073709551616; omega)
  have h := rd_tlvT (c := c) (most := 8) (s := digits n.toNat) (r := r) h0 h1 (by omega) (by omega)
  have e : tlvI c n = tlvT c (digits n.toNat) := rfl
  have hN : rnN c (tlvI c n ++ r) false = n.toNat := by
    rw [rnN_eq, e, h.1, hl, hn]
    rfl
  have hB : rnB c (tlvI c n ++ r) false = false := by
    unfold rnB
    rw [e, h.1, h.2.2, hl]
    rfl
  refine ⟨?_, by rw [e]; exact h.2.1, ?_⟩
  · rw [riI, hN, if_neg (by omega)]
    omega
  · rw [riB, hN, hB, decide_eq_false (by omega)]
    rfl
theorem bods_all {c most : Int} (h0 : 0 ≤ c) (h1 : c < 256) : ∀ (l : List Bs) (f : Nat), l.length < f → (∀ s ∈ l, (s.length : Int) ≤ most ∧ s.length ≤ 16777215) → bods c most f (l.flatMap (tlvT c)) false = (l, false)
  | [], f, hf, _ => by
    rcases f with _ | f
    · omega
    · exact bods_nil
  | s :: l, f, hf, hl => by
    rcases f with _ | f
    · omega
    rw [List.flatMap_cons]
    have h := rd_tlvT (r := l.flatMap (tlvT c)) h0 h1 (hl s (by simp)).1 (hl s (by simp)).2
    have ih := bods_all h0 h1 l f (by simp at hf; omega) (fun t ht => hl t (by simp [ht]))
    have hne : tlvT c s ++ l.flatMap (tlvT c) ≠ [] := by rw [tlvT_cons (hl s (by simp)).2]; simp
    rw [bods, if_neg (by simp [hne]), h.1, h.2.1, h.2.2, ih]
theorem flat_ge {c : Int} : ∀ l : List Bs, l.length ≤ (l.flatMap (tlvT c)).length
  | [] => by simp
  | s :: l => by
    have := flat_ge (c := c) l
    have h2 : 4 ≤ (tlvT c s).length := by simp [tlvT, tlvText]
    rw [List.flatMap_cons, List.length_append, List.length_cons]
    omega
theorem rd_tlvA {c many most : Int} {l : List Bs} {r : Bs} (h0 : 0 ≤ c) (h1 : c < 256) (h2 : (l.length : Int) ≤ many) (h3 : ∀ s ∈ l, (s.length : Int) ≤ most ∧ s.length ≤ 16777215) (h4 : (l.flatMap (tlvT c)).length ≤ 16777215) : raL c many most (tlvA c l ++ r) false = l ∧ rsT c 16777215 (tlvA c l ++ r) false = r ∧ raB c many most (tlvA c l ++ r) false = false := by
  have h := rd_tlvT (c := c) (most := 16777215) (s := l.flatMap (tlvT c)) (r := r) h0 h1 (by omega) h4
  have e : tlvA c l = tlvT c (l.flatMap (tlvT c)) := rfl
  have hX : allX c most (l.flatMap (tlvT c)) = (l, false) := bods_all h0 h1 l _ (by have := flat_ge (c := c) l; omega) h3
  have hb : badA false (l, false) many = false := by
    unfold badA
    rw [decide_eq_false (by show ¬ many < (l.length : Int); omega)]
    rfl
  refine ⟨?_, by rw [e]; exact h.2.1, ?_⟩
  · unfold raL
    rw [e, h.1, h.2.2, hX]
    unfold outA
    rw [hb]
    rfl
  · unfold raB
    rw [e, h.1, h.2.2, hX, hb]
theorem flat_short {c : Int} {n : Nat} : ∀ {l : List Bs}, (∀ s ∈ l, s.length ≤ n) → n ≤ 16777215 → (l.flatMap (tlvT c)).length ≤ l.length * (n + 4)
  | [], _, _ => by simp
  | s :: l, h, hn => by
    have h1 := flat_short (c := c) (l := l) (fun t ht => h t (by simp [ht])) hn
    have h2 := h s (by simp)
    rw [List.flatMap_cons, List.length_append, List.length_cons, Nat.add_mul, tlvT_cons (by omega)]
    simp only [List.length_cons]
    omega
end Go.Proofs.YtkijoddconipoaaGreatDoor
