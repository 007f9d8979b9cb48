/- Law 10: what is right. -/
import Derived.Test.YtkijoddconipoaaGreatDoorP1
import Derived.Test.YtkijoddconipoaaGreatDoorP2
import Derived.Test.YtkijoddconipoaaGreatDoorP3
import Derived.Test.YtkijoddconipoaaGreatDoorP4
import Derived.Test.YtkijoddconipoaaGreatDoorP5
import Derived.Test.YtkijoddconipoaaGreatDoorQ1
import Derived.Test.YtkijoddconipoaaGreatDoorQ2
import Derived.Test.YtkijoddconipoaaGreatDoorK1
import Derived.Test.YtkijoddconipoaaGreatDoorQ3
import Derived.Test.YtkijoddconipoaaGreatDoorQ4
import Derived.Test.YtkijoddconipoaaGreatDoorQ5
import Derived.Test.YtkijoddconipoaaGreatDoorQ13
import Derived.Test.YtkijoddconipoaaGreatDoorQ14
import Derived.Test.YtkijoddconipoaaGreatDoorQ6
import Derived.Test.YtkijoddconipoaaGreatDoorQ7
import Derived.Test.YtkijoddconipoaaGreatDoorQ8
import Derived.Test.YtkijoddconipoaaGreatDoorQ10
import Derived.Test.YtkijoddconipoaaGreatDoorR10
import Derived.Test.YtkijoddconipoaaGreatDoorR11
import Derived.Test.YtkijoddconipoaaGreatDoorR12
import Derived.Test.YtkijoddconipoaaGreatDoorR19
import Derived.Test.YtkijoddconipoaaGreatDoorR13
namespace Go.Proofs.YtkijoddconipoaaGreatDoor
open Go Go.RowKit Tw Av
theorem bs_at {l : List Ent} {i : Nat} (h : Srt l) (hi : i < l.length) : bsAt l l[i].key = i ∧ bsIs l l[i].key = true := by
  obtain ⟨h1, h2⟩ := fnd_eq (k := l[i].key) h
  obtain ⟨h3, h4⟩ := fnd_at h hi
  exact ⟨h1 ▸ h3, h2 ▸ h4⟩
theorem holds_at {l : List Ent} {i : Nat} (hi : i < l.length) (hl : l.length ≤ 2000) : holdsB (topH l.length (treeH (l.map leafH))) l[i] (atP l i) = true := by
  have h := foldH_path (l := l.map leafH) (i := i) (by simpa using hi) (by simpa using hl)
  simp only [List.length_map, List.getElem_map] at h
  unfold holdsB atP
  dsimp only
  rw [h]
  simp
theorem miss_abs {l : List Ent} {k : Bs} (hs : Srt l) (hl : l.length ≤ 2000) (h : bsIs l k = false) : missB (topH l.length (treeH (l.map leafH))) k (absG l (bsAt l k) (bsIs l k)) = true := by
  obtain ⟨A, B, hA, hB, hat, hc⟩ := bs_parts k hs
  rcases hc with ⟨_, hc⟩ | ⟨v, hc, _⟩
  rotate_left
  · rw [hc] at h
    cases h
  subst hc
  rw [h, hat]
  have hA1 : ∀ n, A.length = n + 1 → ∃ x, (A ++ B).getD n ⟨[], []⟩ = x ∧ blt x.key k = true ∧ holdsB (topH (A ++ B).length (treeH ((A ++ B).map leafH))) x (atP (A ++ B) (n : Int)) = true := fun n hn => by
    have hn1 : n < (A ++ B).length := by rw [List.length_append]; omega
    refine ⟨(A ++ B)[n], getD_at hn1, ?_, holds_at hn1 hl⟩
    rw [List.getElem_append_left (by omega)]
    exact hA _ (List.getElem_mem _)
  have hB1 : A.length < (A ++ B).length → ∃ x, (A ++ B).getD A.length ⟨[], []⟩ = x ∧ blt k x.key = true ∧ holdsB (topH (A ++ B).length (treeH ((A ++ B).map leafH))) x (atP (A ++ B) (A.length : Int)) = true := fun hn1 => by
    refine ⟨(A ++ B)[A.length], getD_at hn1, ?_, holds_at hn1 hl⟩
    rw [List.getElem_append_right (Nat.le_refl _)]
    exact hB _ (List.getElem_mem _)
  unfold absG missB
  rw [if_neg (by simp)]
  dsimp only
  by_cases h1 : 0 < A.length
  · obtain ⟨n, hn⟩ : ∃ n, A.length = n + 1 := ⟨A.length - 1, by omega⟩
    obtain ⟨x, e1, e2, e3⟩ := hA1 n hn
    rw [if_pos h1, if_pos h1, show A.length - 1 = n by omega, e1]
    by_cases h2 : A.length < (A ++ B).length
    · obtain ⟨y, e4, e5, e6⟩ := hB1 h2
      rw [if_pos h2, if_pos h2, e4]
      simp only [atP] at e3 e6
      simp only [sideB, endB, e2, e3, e5, e6, atP, decide_true, Bool.and_true, Bool.true_and]
      exact decide_eq_true (by omega)
    · rw [if_neg h2, if_neg h2]
      simp only [atP] at e3
      simp only [sideB, endB, e2, e3, atP, decide_true, Bool.and_true, Bool.true_and]
      refine decide_eq_true ?_
      have : (A ++ B).length = A.length := by rw [List.length_append] at h2 ⊢; omega
      rw [this]
      omega
  · have h0 : A.length = 0 := by omega
    rw [if_neg h1, if_neg h1]
    by_cases h2 : A.length < (A ++ B).length
    · obtain ⟨y, e4, e5, e6⟩ := hB1 h2
      rw [if_pos h2, if_pos h2, e4]
      simp only [atP] at e6
      simp only [sideB, endB, e5, e6, atP, decide_true, Bool.and_true, Bool.true_and]
      exact decide_eq_true (by omega)
    · rw [if_neg h2, if_neg h2]
      have : A ++ B = [] := List.eq_nil_of_length_eq_zero (by omega)
      rw [this]
      simp [sideB, endB]
theorem absG_bnds {d : List Ent} {n : Nat} {b : Bool} (hd : d.length ≤ 10) (hn : n ≤ d.length) : ((absG d n b).a.m ≤ 9223372036854775807 ∧ (absG d n b).b.m ≤ 9223372036854775807) ∧ (-4611686018427387904 ≤ (absG d n b).a.a ∧ (absG d n b).a.a ≤ 4611686018427387904) ∧ -4611686018427387904 ≤ (absG d n b).n ∧ (absG d n b).n ≤ 4611686018427387904 := by
  unfold absG
  split
  · decide
  · dsimp only
    refine ⟨⟨?_, ?_⟩, ⟨?_, ?_⟩, ?_, ?_⟩
    · split <;> simp only [atP, zeroP] <;> omega
    · split <;> simp only [atP, zeroP] <;> omega
    · split <;> simp only [atP, zeroP] <;> omega
    · split <;> simp only [atP, zeroP] <;> omega
    · omega
    · omega
theorem getR_some {l : List Ent} {k : Bs} (h : Srt l) : (getR l k).isSome = bsIs l k := getR_bsIs h
end Go.Proofs.YtkijoddconipoaaGreatDoor
