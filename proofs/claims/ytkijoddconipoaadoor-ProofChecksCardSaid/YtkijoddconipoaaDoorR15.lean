/- Law 10: the ends. -/
import Derived.Test.YtkijoddconipoaaDoorP1
import Derived.Test.YtkijoddconipoaaDoorP2
import Derived.Test.YtkijoddconipoaaDoorP3
import Derived.Test.YtkijoddconipoaaDoorP4
import Derived.Test.YtkijoddconipoaaDoorQ1
import Derived.Test.YtkijoddconipoaaDoorQ2
import Derived.Test.YtkijoddconipoaaDoorK1
import Derived.Test.YtkijoddconipoaaDoorQ3
import Derived.Test.YtkijoddconipoaaDoorQ4
import Derived.Test.YtkijoddconipoaaDoorQ5
import Derived.Test.YtkijoddconipoaaDoorQ6
import Derived.Test.YtkijoddconipoaaDoorQ7
import Derived.Test.YtkijoddconipoaaDoorQ8
import Derived.Test.YtkijoddconipoaaDoorQ10
import Derived.Test.YtkijoddconipoaaDoorR10
import Derived.Test.YtkijoddconipoaaDoorR11
import Derived.Test.YtkijoddconipoaaDoorR12
import Derived.Test.YtkijoddconipoaaDoorR13
import Derived.Test.YtkijoddconipoaaDoorR14
namespace Go.Proofs.YtkijoddconipoaaDoor
open Go Go.RowKit Tw Av
set_option maxHeartbeats 2000000 in
instance fnProofEnds {l : List Ent} {key : Bs} {xs : List AV} {id : Option Value} [hx : Ents xs l] : Ans Tryd.prog GL 18 [.sl 2 xs id, str key] True (boo true) := ⟨fun _ => by
  have h1 := hx.out
  subst h1
  refine spec_enter Tryd.func18 rfl Tryd.ntmps18 rfl (fun _ hs => ?_)
  repeat' (first | refine W ?_ | refine op2 ?_ | refine ob4 ?_ | refine ob2 (fun _ => ?_) | intro _ | simp only [List.set])
  have h3 := few10_len l
  have h4 := few10_dict l
  have h5 := few10_srt l
  generalize few10 l = f at *
  repeat' (first | refine W ?_ | refine op2 ?_ | refine ob4 ?_ | refine ob2 (fun _ => ?_) | intro _ | simp only [List.set])
  rw [h4]
  have hpre : f.length ≤ 2000 ∧ Srt f := ⟨by omega, h5⟩
  have hm : (f.map entA).length = f.length := List.length_map _
  repeat' (first | refine W ?_ | refine op2 ?_ | refine ob4 ?_ | refine ob2 (fun _ => ?_) | intro _ | simp only [List.set])
  have hle := bsAt_le f (key.take (Int.toNat 12))
  cases hb : bsIs f (key.take (Int.toNat 12))
  rotate_left
  focus
    rw [show absG f (bsAt f (key.take (Int.toNat 12))) true = zeroG from rfl]
    repeat' (first | refine W ?_ | refine op2 ?_ | refine ob4 ?_ | refine ob2 (fun _ => ?_) | intro _ | simp only [List.set])
    rw [hb]
    have hz1 : (zeroG.l.map entA).length = 0 := rfl
    have hz2 : (zeroG.r.map entA).length = 0 := rfl
    repeat' (first | refine W ?_ | refine op2 ?_ | refine ob4 ?_ | refine ob2 (fun _ => ?_) | intro _ | simp only [List.set])
    refine reE ?_
    rfl
  have hm1 : ∀ x : Ent, ([x].map entA).length = 1 := fun _ => rfl
  have hm0 : (([] : List Ent).map entA).length = 0 := rfl
  generalize hn : bsAt f (key.take (Int.toNat 12)) = n at *
  have e2 : ∀ n : Nat, (((n + 1 : Nat) : Int) - 1) = n := fun n => by omega
  rcases n with _ | n
  focus
    by_cases h1 : 0 < f.length
    focus
      rw [show absG f 0 false = ⟨f.length, [], [f[0]], zeroP, atP f (0 : Nat)⟩ by simp [absG, h1]]
      have p2 : decide (((0 : Nat) : Int) < ((f.map entA).length : Int)) = true := decide_eq_true (by omega)
      repeat' (first | refine W ?_ | refine op2 ?_ | refine ob4 ?_ | refine ob2 (fun _ => ?_) | intro _ | simp only [List.set] | refine gdT ?_ | refine gdF ?_ | refine cdT ?_ | refine cdF ?_ | fail)
      rw [hn]
      repeat' (first | refine W ?_ | refine op2 ?_ | refine ob4 ?_ | refine ob2 (fun _ => ?_) | intro _ | simp only [List.set] | refine gdT ?_ | refine gdF ?_ | refine cdT ?_ | refine cdF ?_ | fail)
      rw [p2]
      repeat' (first | refine W ?_ | refine op2 ?_ | refine ob4 ?_ | refine ob2 (fun _ => ?_) | intro _ | simp only [List.set] | refine gdT ?_ | refine gdF ?_ | refine cdT ?_ | refine cdF ?_ | fail)
      refine reE ?_
      rfl
    focus
      rw [show absG f 0 false = ⟨f.length, [], [], zeroP, zeroP⟩ by simp [absG, h1]]
      have p2 : decide (((0 : Nat) : Int) < ((f.map entA).length : Int)) = false := decide_eq_false (by omega)
      repeat' (first | refine W ?_ | refine op2 ?_ | refine ob4 ?_ | refine ob2 (fun _ => ?_) | intro _ | simp only [List.set] | refine gdT ?_ | refine gdF ?_ | refine cdT ?_ | refine cdF ?_ | fail)
      rw [hn]
      repeat' (first | refine W ?_ | refine op2 ?_ | refine ob4 ?_ | refine ob2 (fun _ => ?_) | intro _ | simp only [List.set] | refine gdT ?_ | refine gdF ?_ | refine cdT ?_ | refine cdF ?_ | fail)
      rw [p2]
      repeat' (first | refine W ?_ | refine op2 ?_ | refine ob4 ?_ | refine ob2 (fun _ => ?_) | intro _ | simp only [List.set] | refine gdT ?_ | refine gdF ?_ | refine cdT ?_ | refine cdF ?_ | fail)
      refine reE ?_
      rfl
  focus
    have hn1 : n < f.length := by omega
    have n1 : decide ((atP f (n : Int)).a ≠ (n : Int)) = false := decide_eq_false (by simp [atP])
    by_cases h1 : n + 1 < f.length
    focus
      rw [show absG f (n + 1) false = ⟨f.length, [f[n]], [f[n + 1]], atP f n, atP f ((n + 1 : Nat) : Int)⟩ by simp [absG, h1, hn1]]
      have p2 : decide (((n + 1 : Nat) : Int) < ((f.map entA).length : Int)) = true := decide_eq_true (by omega)
      repeat' (first | refine W ?_ | refine op2 ?_ | refine ob4 ?_ | refine ob2 (fun _ => ?_) | intro _ | simp only [List.set] | refine gdT ?_ | refine gdF ?_ | refine cdT ?_ | refine cdF ?_ | fail)
      rw [hn]
      rw [decide_eq_true (show (0 : Int) < ((n + 1 : Nat) : Int) by omega)]
      repeat' (first | refine W ?_ | refine op2 ?_ | refine ob4 ?_ | refine ob2 (fun _ => ?_) | intro _ | simp only [List.set] | refine gdT ?_ | refine gdF ?_ | refine cdT ?_ | refine cdF ?_ | fail)
      rw [p2]
      repeat' (first | refine W ?_ | refine op2 ?_ | refine ob4 ?_ | refine ob2 (fun _ => ?_) | intro _ | simp only [List.set] | refine gdT ?_ | refine gdF ?_ | refine cdT ?_ | refine cdF ?_ | fail)
      rw [e2]
      repeat' (first | refine W ?_ | refine op2 ?_ | refine ob4 ?_ | refine ob2 (fun _ => ?_) | intro _ | simp only [List.set] | refine gdT ?_ | refine gdF ?_ | refine cdT ?_ | refine cdF ?_ | fail)
      rw [e2, n1]
      repeat' (first | refine W ?_ | refine op2 ?_ | refine ob4 ?_ | refine ob2 (fun _ => ?_) | intro _ | simp only [List.set])
      refine ac_cond (fun hh => absurd rfl hh) (fun _ => ?_)
      repeat' (first | refine W ?_ | refine op2 ?_ | refine ob4 ?_ | refine ob2 (fun _ => ?_) | intro _ | simp only [List.set])
      refine reE ?_
      rfl
    focus
      rw [show absG f (n + 1) false = ⟨f.length, [f[n]], [], atP f n, zeroP⟩ by simp [absG, h1, hn1]]
      have p2 : decide (((n + 1 : Nat) : Int) < ((f.map entA).length : Int)) = false := decide_eq_false (by omega)
      repeat' (first | refine W ?_ | refine op2 ?_ | refine ob4 ?_ | refine ob2 (fun _ => ?_) | intro _ | simp only [List.set] | refine gdT ?_ | refine gdF ?_ | refine cdT ?_ | refine cdF ?_ | fail)
      rw [hn]
      rw [decide_eq_true (show (0 : Int) < ((n + 1 : Nat) : Int) by omega)]
      repeat' (first | refine W ?_ | refine op2 ?_ | refine ob4 ?_ | refine ob2 (fun _ => ?_) | intro _ | simp only [List.set] | refine gdT ?_ | refine gdF ?_ | refine cdT ?_ | refine cdF ?_ | fail)
      rw [p2]
      repeat' (first | refine W ?_ | refine op2 ?_ | refine ob4 ?_ | refine ob2 (fun _ => ?_) | intro _ | simp only [List.set] | refine gdT ?_ | refine gdF ?_ | refine cdT ?_ | refine cdF ?_ | fail)
      rw [e2]
      repeat' (first | refine W ?_ | refine op2 ?_ | refine ob4 ?_ | refine ob2 (fun _ => ?_) | intro _ | simp only [List.set] | refine gdT ?_ | refine gdF ?_ | refine cdT ?_ | refine cdF ?_ | fail)
      rw [e2, n1]
      repeat' (first | refine W ?_ | refine op2 ?_ | refine ob4 ?_ | refine ob2 (fun _ => ?_) | intro _ | simp only [List.set])
      refine reE ?_
      rfl⟩
end Go.Proofs.YtkijoddconipoaaDoor
