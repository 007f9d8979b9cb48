/- Law 10: what is right. -/
import Derived.Test.YtkijoddconipoaaDoorP1
import Derived.Test.YtkijoddconipoaaDoorP2
import Derived.Test.YtkijoddconipoaaDoorP3
import Derived.Test.YtkijoddconipoaaDoorP4
import Derived.Test.YtkijoddconipoaaDoorQ1
import Derived.Test.YtkijoddconipoaaDoorQ2
import Derived.Test.YtkijoddconipoaaDoorK1
import Derived.Test.YtkijoddconipoaaDoorQ3
import Derived.Test.YtkijoddconipoaaDoorQ4
import Derived.Test.YtkijoddconipoaaDoorQ5
import Derived.Test.YtkijoddconipoaaDoorQ6
import Derived.Test.YtkijoddconipoaaDoorQ7
import Derived.Test.YtkijoddconipoaaDoorQ8
import Derived.Test.YtkijoddconipoaaDoorQ10
import Derived.Test.YtkijoddconipoaaDoorR10
import Derived.Test.YtkijoddconipoaaDoorR11
import Derived.Test.YtkijoddconipoaaDoorR12
import Derived.Test.YtkijoddconipoaaDoorR13
namespace Go.Proofs.YtkijoddconipoaaDoor
open Go Go.RowKit Tw Av
theorem bs_at {l : List Ent} {i : Nat} (h : Srt l) (hi : i < l.length) : bsAt l l[i].key = i ∧ bsIs l l[i].key = true := by
  obtain ⟨h1, h2⟩ := fnd_eq (k := l[i].key) h
  obtain ⟨h3, h4⟩ := fnd_at h hi
  exact ⟨h1 ▸ h3, h2 ▸ h4⟩
theorem holds_at {l : List Ent} {i : Nat} (hi : i < l.length) (hl : l.length ≤ 2000) : holdsB (topH l.length (treeH (l.map leafH))) l[i] (atP l i) = true := by
  have h := foldH_path (l := l.map leafH) (i := i) (by simpa using hi) (by simpa using hl)
  simp only [List.length_map, List.getElem_map] at h
  unfold holdsB atP
  dsimp only
  rw [h]
  simp
theorem miss_abs {l : List Ent} {k : Bs} (hs : Srt l) (hl : l.length ≤ 2000) (h : bsIs l k = false) : missB (topH l.length (treeH (l.map leafH))) k (absG l (bsAt l k) (bsIs l k)) = true := by
  obtain ⟨A, B, hA, hB, hat, hc⟩ := bs_parts k hs
  rcases hc with ⟨_, hc⟩ | ⟨v, hc, _⟩
  rotate_left
  · rw [hc] at h
    cases h
  subst hc
  rw [h, hat]
  have hA1 : ∀ n, A.length = n + 1 → ∃ x, (A ++ B).getD n ⟨[], []⟩ = x ∧ blt x.key k = true ∧ holdsB (topH (A ++ B).length (treeH ((A ++ B).map leafH))) x (atP (A ++ B) (n : Int)) = true := fun n hn => by
    have hn1 : n < (A ++ B).length := by rw [List.length_append]; omega
    refine ⟨(A ++ B)[n], getD_at hn1, ?_, holds_at hn1 hl⟩
    rw [List.getElem_append_left (by omega)]
    exact hA _ (List.getElem_mem _)
  have hB1 : A.length < (A ++ B).length → ∃ x, (A ++ B).getD A.length ⟨[], []⟩ = x ∧ blt k x.key = true ∧ holdsB (topH (A ++ B).length (treeH ((A ++ B).map leafH))) x (atP (A ++ B) (A.length : Int)) = true := fun hn1 => by
    refine ⟨(A ++ B)[A.length], getD_at hn1, ?_, holds_at hn1 hl⟩
    rw [List.getElem_append_right (Nat.le_refl _)]
    exact hB _ (List.getElem_mem _)
  unfold absG missB
  rw [if_neg (by simp)]
  dsimp only
  by_cases h1 : 0 < A.length
  · obtain ⟨n, hn⟩ : ∃ n, A.length = n + 1 := ⟨A.length - 1, by omega⟩
    obtain ⟨x, e1, e2, e3⟩ := hA1 n hn
    rw [if_pos h1, if_pos h1, show A.length - 1 = n by omega, e1]
    by_cases h2 : A.length < (A ++ B).length
    · obtain ⟨y, e4, e5, e6⟩ := hB1 h2
      rw [if_pos h2, if_pos h2, e4]
      simp only [atP] at e3 e6
      simp only [sideB, endB, e2, e3, e5, e6, atP, decide_true, Bool.and_true, Bool.true_and]
      exact decide_eq_true (by omega)
    · rw [if_neg h2, if_neg h2]
      simp only [atP] at e3
      simp only [sideB, endB, e2, e3, atP, decide_true, Bool.and_true, Bool.true_and]
      refine decide_eq_true ?_
      have : (A ++ B).length = A.length := by rw [List.length_append] at h2 ⊢; omega
      rw [this]
      omega
  · have h0 : A.length = 0 := by omega
    rw [if_neg h1, if_neg h1]
    by_cases h2 : A.length < (A ++ B).length
    · obtain ⟨y, e4, e5, e6⟩ := hB1 h2
      rw [if_pos h2, if_pos h2, e4]
      simp only [atP] at e6
      simp only [sideB, endB, e5, e6, atP, decide_true, Bool.and_true, Bool.true_and]
      exact decide_eq_true (by omega)
    · rw [if_neg h2, if_neg h2]
      have : A ++ B = [] := List.eq_nil_of_length_eq_zero (by omega)
      rw [this]
      simp [sideB, endB]
theorem absG_bnds {d : List Ent} {n : Nat} {b : Bool} (hd : d.length ≤ 10) (hn : n ≤ d.length) : ((absG d n b).a.m ≤ 9223372036854775807 ∧ (absG d n b).b.m ≤ 9223372036854775807) ∧ (-4611686018427387904 ≤ (absG d n b).a.a ∧ (absG d n b).a.a ≤ 4611686018427387904) ∧ -4611686018427387904 ≤ (absG d n b).n ∧ (absG d n b).n ≤ 4611686018427387904 := by
  unfold absG
  split
  · decide
  · dsimp only
    refine ⟨⟨?_, ?_⟩, ⟨?_, ?_⟩, ?_, ?_⟩
    · split <;> simp only [atP, zeroP] <;> omega
    · split <;> simp only [atP, zeroP] <;> omega
    · split <;> simp only [atP, zeroP] <;> omega
    · split <;> simp only [atP, zeroP] <;> omega
    · omega
    · omega
theorem getR_some {l : List Ent} {k : Bs} (h : Srt l) : (getR l k).isSome = bsIs l k := getR_bsIs h
set_option maxHeartbeats 2000000 in
instance fnProofRight {l : List Ent} {key : Bs} {xs : List AV} {id : Option Value} [hx : Ents xs l] : Ans Tryd.prog GL 17 [.sl 2 xs id, str key] True (boo true) := ⟨fun _ => by
  have h1 := hx.out
  subst h1
  refine spec_enter Tryd.func17 rfl Tryd.ntmps17 rfl (fun _ hs => ?_)
  repeat' (first | refine W ?_ | refine op2 ?_ | refine ob4 ?_ | refine ob2 (fun _ => ?_) | intro _ | simp only [List.set])
  have h3 := few10_len l
  have h4 := few10_dict l
  have h5 := few10_srt l
  generalize few10 l = f at *
  repeat' (first | refine W ?_ | refine op2 ?_ | refine ob4 ?_ | refine ob2 (fun _ => ?_) | intro _ | simp only [List.set])
  rw [h4]
  have hpre : f.length ≤ 2000 ∧ Srt f := ⟨by omega, h5⟩
  have hm : (f.map entA).length = f.length := List.length_map _
  repeat' (first | refine W ?_ | refine op2 ?_ | refine ob4 ?_ | refine ob2 (fun _ => ?_) | intro _ | simp only [List.set])
  rename_i g7 g8
  refine ac_loop (α := Nat) (fun i => [(1, str key), (5, boo true), (6, .sl 2 (f.map entA) none), (7, ptr g7), (8, ptr g8), (9, int i)]) (fun i => [.var g8 24 (hA (topH f.length (treeH (f.map leafH)))), .var g7 32 (dA f)])
    (fun i => i ≤ f.length) (fun i => f.length - i) 0 ⟨rfl, rfl, rfl, rfl, rfl, rfl, trivial⟩ (List.Sublist.refl _) (Nat.zero_le _) ?_
  intro i hi
  repeat' (first | refine W ?_ | refine op2 ?_ | refine ob4 ?_ | refine ob2 (fun _ => ?_) | intro _ | simp only [List.set])
  refine ac_cond (fun hlt => ?_) (fun hlt => ?_)
  · have hil : i < f.length := by omega
    obtain ⟨e1, e2⟩ := bs_at h5 hil
    have e3 := holds_at hil (by omega)
    repeat' (first | refine W ?_ | refine op2 ?_ | refine ob4 ?_ | refine ob2 (fun _ => ?_) | intro _ | simp only [List.set])
    rw [e1, e2, show memP f i true = atP f i from rfl]
    have n3 : (atP f (i : Int)).m ≤ 9223372036854775807 := by
      show (f.length : Int) ≤ 9223372036854775807
      omega
    have n1 : decide ((atP f i).a ≠ (i : Int)) = false := decide_eq_false (by simp [atP])
    have n2 : decide ((atP f i).m ≠ ((f.map entA).length : Int)) = false := decide_eq_false (by simp [atP])
    repeat' (first | refine W ?_ | refine op2 ?_ | refine ob4 ?_ | refine ob2 (fun _ => ?_) | intro _ | simp only [List.set])
    rw [n1]
    repeat' (first | refine W ?_ | refine op2 ?_ | refine ob4 ?_ | refine ob2 (fun _ => ?_) | intro _ | simp only [List.set])
    rw [n2]
    repeat' (first | refine W ?_ | refine op2 ?_ | refine ob4 ?_ | refine ob2 (fun _ => ?_) | intro _ | simp only [List.set])
    rw [show holdsB (topH f.length (treeH (f.map leafH))) ⟨f[i].key, f[i].val⟩ ⟨(atP f i).a, (atP f i).m, (atP f i).p⟩ = true from e3]
    repeat' (first | refine W ?_ | refine op2 ?_ | refine ob4 ?_ | refine ob2 (fun _ => ?_) | intro _ | simp only [List.set])
    refine ae_round (i + 1) ⟨rfl, rfl, rfl, rfl, rfl, rfl, trivial⟩ ?_ hil (by omega)
    repeat (first | exact List.nil_sublist _ | exact List.Sublist.refl _ | apply List.Sublist.cons_cons | apply List.Sublist.cons)
  · obtain rfl : i = f.length := by omega
    repeat' (first | refine W ?_ | refine op2 ?_ | refine ob4 ?_ | refine ob2 (fun _ => ?_) | intro _ | simp only [List.set])
    rw [getR_bsIs h5]
    have e4 := miss_abs (k := key.take (Int.toNat 12)) h5 (by omega)
    have e5 := absG_lens h3 (bsAt f (key.take (Int.toNat 12))) (bsIs f (key.take (Int.toNat 12)))
    have e6 := absG_bnds (b := bsIs f (key.take (Int.toNat 12))) h3 (bsAt_le f (key.take (Int.toNat 12)))
    cases hb : bsIs f (key.take (Int.toNat 12))
    focus
      have e4 := e4 hb
      rw [hb] at e4 e6
      generalize absG f (bsAt f (key.take (Int.toNat 12))) false = G at *
      repeat' (first | refine W ?_ | refine op2 ?_ | refine ob4 ?_ | refine ob2 (fun _ => ?_) | intro _ | simp only [List.set])
      rw [show missB (topH f.length (treeH (f.map leafH))) (key.take (Int.toNat 12)) ⟨G.n, G.l, G.r, ⟨G.a.a, G.a.m, G.a.p⟩, ⟨G.b.a, G.b.m, G.b.p⟩⟩ = true from e4]
      repeat' (first | refine W ?_ | refine op2 ?_ | refine ob4 ?_ | refine ob2 (fun _ => ?_) | intro _ | simp only [List.set])
      refine reE ?_
      rfl
    focus
      repeat' (first | refine W ?_ | refine op2 ?_ | refine ob4 ?_ | refine ob2 (fun _ => ?_) | intro _ | simp only [List.set])
      refine reE ?_
      rfl⟩
end Go.Proofs.YtkijoddconipoaaDoor
