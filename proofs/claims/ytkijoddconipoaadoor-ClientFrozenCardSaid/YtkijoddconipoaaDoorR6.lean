/- Law 14: a law, walked. -/
import Derived.Test.YtkijoddconipoaaDoorP1
import Derived.Test.YtkijoddconipoaaDoorP2
import Derived.Test.YtkijoddconipoaaDoorP3
import Derived.Test.YtkijoddconipoaaDoorP4
import Derived.Test.YtkijoddconipoaaDoorQ1
import Derived.Test.YtkijoddconipoaaDoorQ2
import Derived.Test.YtkijoddconipoaaDoorK1
import Derived.Test.YtkijoddconipoaaDoorQ3
import Derived.Test.YtkijoddconipoaaDoorQ5
import Derived.Test.YtkijoddconipoaaDoorR1
import Derived.Test.YtkijoddconipoaaDoorR2
import Derived.Test.YtkijoddconipoaaDoorR3
import Derived.Test.YtkijoddconipoaaDoorR4
import Derived.Test.YtkijoddconipoaaDoorR5
import Derived.Test.YtkijoddconipoaaDoorR7
namespace Go.Proofs.YtkijoddconipoaaDoor
open Go Go.RowKit Tw Av
theorem u8w_int (n : Int) : AV.lit (.int .u8 (IntKind.u8.wrap n)) = u8A (UInt8.ofNat (n % 256).toNat) := by
  have h1 := Int.emod_nonneg n (b := 256) (by omega)
  have h2 := Int.emod_lt_of_pos n (b := 256) (by omega)
  have h3 : (UInt8.ofNat (n % 256).toNat).toNat = (n % 256).toNat := by simp; omega
  show AV.lit (.int .u8 _) = AV.lit (.int .u8 _)
  rw [h3, IntKind.wrap_u8]
  congr 2
  omega
def e14 (l : List Sta) : Cli := ⟨[97], [107, 101, 121], 1000, false, l⟩
theorem e14_ok {l : List Sta} (h1 : l.length ≤ 100) (h2 : 0 ≤ (latC l).t ∧ (latC l).t ≤ 1000000) : CliOk (e14 l) := by
  refine ⟨?_, (by decide : [107, 101, 121].length ≤ 1000000), ?_, (by decide : (-4611686018427387904 : Int) ≤ 1000), (by decide : (1000 : Int) < 4611686018427387904)⟩
  · show l.length ≤ 1000000
    omega
  · show -4611686018427387904 ≤ (latC l).t ∧ (latC l).t ≤ 4611686018427387904
    omega
theorem e14_upd {l l' : List Sta} {h t : Int} {r : Hsh} (h0 : 0 ≤ (latC l).t) (hh : 1 ≤ h ∧ h ≤ 1000) (ht : 0 ≤ t ∧ t ≤ 100000) (hp : putC (e14 l) ⟨h, t, r⟩ = e14 l') : updE (e14 l) ⟨[97], h, t, r⟩ (sealOf [107, 101, 121] ⟨[97], h, t, r⟩) 0 = 0 ∧ updC (e14 l) ⟨[97], h, t, r⟩ (sealOf [107, 101, 121] ⟨[97], h, t, r⟩) 0 = e14 l' := by
  have h3 := upd_ok (x := e14 l) (h := ⟨[97], h, t, r⟩) (now := 0) (by
    unfold actC
    show (!false && decide (0 < (latC l).t + 1000)) = true
    simp
    omega) (by simp [chkH]; omega) rfl
  exact ⟨h3.1, h3.2.trans hp⟩
theorem e14_new : newR [107, 101, 121] 1000 ⟨[97], 1, 0, zeroH⟩ = e14 [⟨1, 0, zeroH⟩] ∧ newE [107, 101, 121] 1000 ⟨[97], 1, 0, zeroH⟩ = 0 := by
  have h : mayC (newC [107, 101, 121] 1000 ⟨[97], 1, 0, zeroH⟩) = true := by kernel_rfl
  unfold newR newE
  rw [if_pos h, if_pos h]
  exact ⟨rfl, rfl⟩
/-- one more at the end of one -/
theorem e14_one {s : Sta} (h : 1 < s.h) (ht : 0 ≤ s.t) : putC (e14 [⟨1, 0, zeroH⟩]) s = e14 [⟨1, 0, zeroH⟩, s] := by
  rw [put_last (fun y hy => by simp [e14] at hy; subst hy; exact h) (fun y hy => by simp [e14] at hy; subst hy; exact ht)]
  rfl
theorem e14_two {a s : Sta} (h1 : 1 < a.h) (h : a.h < s.h) (ht1 : 0 ≤ a.t) (ht : a.t ≤ s.t) : putC (e14 [⟨1, 0, zeroH⟩, a]) s = e14 [⟨1, 0, zeroH⟩, a, s] := by
  rw [put_last (fun y hy => by simp [e14] at hy; rcases hy with rfl | rfl <;> first | omega | (show (1 : Int) < s.h; omega) | (show (0 : Int) ≤ s.t; omega)) (fun y hy => by simp [e14] at hy; rcases hy with rfl | rfl <;> first | omega | (show (1 : Int) < s.h; omega) | (show (0 : Int) ≤ s.t; omega))]
  rfl
theorem e14_mid {a s : Sta} (h1 : 1 < s.h) (h : s.h < a.h) (ht1 : 0 ≤ s.t) (ht : s.t ≤ a.t) : putC (e14 [⟨1, 0, zeroH⟩, a]) s = e14 [⟨1, 0, zeroH⟩, s, a] := by
  have e1 : atI (e14 [⟨1, 0, zeroH⟩, a]).l s.h = 1 := by
    show atI [⟨1, 0, zeroH⟩, a] s.h = 1
    rw [atI_cons, if_neg (by dsimp only; omega), atI_cons, if_pos (by omega)]
  have e2 : atIs (e14 [⟨1, 0, zeroH⟩, a]).l s.h = false := by
    rw [atIs_in (by rw [e1]; exact Nat.lt_succ_self 1)]
    simp only [e1]
    show decide (a.h = s.h) = false
    simp
    omega
  have e3 : badAt (e14 [⟨1, 0, zeroH⟩, a]).l s (atI (e14 [⟨1, 0, zeroH⟩, a]).l s.h) = false := by
    rw [e1]
    show badAt [⟨1, 0, zeroH⟩, a] s 1 = false
    simp [badAt, fol]
    omega
  rw [put_ins e2 e3]
  simp only [insS, e1]
  rfl
theorem e14_same {s : Sta} (h1 : 1 < s.h) : putC (e14 [⟨1, 0, zeroH⟩, s]) s = e14 [⟨1, 0, zeroH⟩, s] := by
  have e1 : atI (e14 [⟨1, 0, zeroH⟩, s]).l s.h = 1 := by
    show atI [⟨1, 0, zeroH⟩, s] s.h = 1
    rw [atI_cons, if_neg (by dsimp only; omega), atI_cons, if_pos (by omega)]
  refine put_same ?_ ?_
  · rw [atIs_in (by rw [e1]; exact Nat.lt_succ_self 1)]
    simp only [e1]
    show decide (s.h = s.h) = true
    simp
  · rw [e1]
    rfl
set_option maxHeartbeats 1000000 in
instance fnClientEither {q0 q1 q2 q3 : Int} : Ans Tryd.prog GL 9 [.agg 4 [int q0, int q1, int q2, int q3]] True (boo true) := ⟨fun _ => by
  have a1 := Int.emod_nonneg q0 (b := 32) (by omega)
  have a2 := Int.emod_lt_of_pos q0 (b := 32) (by omega)
  have b1 := Int.emod_nonneg q1 (b := 32) (by omega)
  have b2 := Int.emod_lt_of_pos q1 (b := 32) (by omega)
  refine spec_enter Tryd.func9 rfl Tryd.ntmps9 rfl (fun _ hs => ?_)
  repeat' (first | refine W ?_ | refine op2 ?_ | refine ob4 ?_ | refine ob2 (fun _ => ?_) | intro _ | simp only [List.set])
  rw [u8w_int, u8w_int]
  generalize hra : UInt8.ofNat (q2 % 256).toNat = ca
  generalize hrb : UInt8.ofNat (q3 % 256).toNat = cb
  generalize hA0 : 2 + q0 % 32 = A
  generalize hB0 : 2 + q1 % 32 = B
  rename_i g1 g4 g5
  refine ac_mid (α := Unit) (fun _ => [(3, boo true), (4, ptr g4), (5, ptr g5)]) (fun _ => [.var g5 60 (hdrA ⟨[97], B, 3 * B, if A = B then oneH ca else oneH cb⟩), .var g4 60 (hdrA ⟨[97], A, 3 * A, oneH ca⟩)]) ?_ (fun _ => ?_)
  · refine ac_cond (fun h => ?_) (fun h => ?_)
    · repeat' (first | refine W ?_ | refine op2 ?_ | refine ob4 ?_ | refine ob2 (fun _ => ?_) | intro _ | simp only [List.set])
      refine ae_cut () ⟨rfl, rfl, rfl, trivial⟩ ?_
      rw [if_pos h]
      repeat (first | exact List.nil_sublist _ | exact List.Sublist.refl _ | apply List.Sublist.cons_cons | apply List.Sublist.cons)
    · repeat' (first | refine W ?_ | refine op2 ?_ | refine ob4 ?_ | refine ob2 (fun _ => ?_) | intro _ | simp only [List.set])
      refine ae_cut () ⟨rfl, rfl, rfl, trivial⟩ ?_
      rw [if_neg h]
      repeat (first | exact List.nil_sublist _ | exact List.Sublist.refl _ | apply List.Sublist.cons_cons | apply List.Sublist.cons)
  · generalize hrr : (if A = B then oneH ca else oneH cb) = rb
    generalize hrra : oneH ca = ra at *
    have k0 : CliOk (e14 [⟨1, 0, zeroH⟩]) := e14_ok (by simp) ⟨by decide, by decide⟩
    have k1 : CliOk (e14 [⟨1, 0, zeroH⟩]) ∧ A ≤ 9223372036854775807 ∧ 3 * A ≤ 9223372036854775807 := ⟨k0, by omega, by omega⟩
    have k2 : CliOk (e14 [⟨1, 0, zeroH⟩]) ∧ B ≤ 9223372036854775807 ∧ 3 * B ≤ 9223372036854775807 := ⟨k0, by omega, by omega⟩
    have k3 : CliOk (e14 [⟨1, 0, zeroH⟩, ⟨A, 3 * A, ra⟩]) ∧ B ≤ 9223372036854775807 ∧ 3 * B ≤ 9223372036854775807 := ⟨e14_ok (by simp) (show 0 ≤ 3 * A ∧ 3 * A ≤ 1000000 by omega), by omega, by omega⟩
    have k4 : CliOk (e14 [⟨1, 0, zeroH⟩, ⟨B, 3 * B, rb⟩]) ∧ A ≤ 9223372036854775807 ∧ 3 * A ≤ 9223372036854775807 := ⟨e14_ok (by simp) (show 0 ≤ 3 * B ∧ 3 * B ≤ 1000000 by omega), by omega, by omega⟩
    have u1 := e14_upd (l := [⟨1, 0, zeroH⟩]) (h := A) (t := 3 * A) (r := ra) (by decide) (by omega) (by omega) (e14_one (s := ⟨A, 3 * A, ra⟩) (by dsimp only; omega) (by dsimp only; omega))
    have u2 := e14_upd (l := [⟨1, 0, zeroH⟩]) (h := B) (t := 3 * B) (r := rb) (by decide) (by omega) (by omega) (e14_one (s := ⟨B, 3 * B, rb⟩) (by dsimp only; omega) (by dsimp only; omega))
    have l3 : 0 ≤ (latC [⟨1, 0, zeroH⟩, (⟨A, 3 * A, ra⟩ : Sta)]).t := by show 0 ≤ 3 * A; omega
    have l4 : 0 ≤ (latC [⟨1, 0, zeroH⟩, (⟨B, 3 * B, rb⟩ : Sta)]).t := by show 0 ≤ 3 * B; omega
    repeat' (first | refine W ?_ | refine op2 ?_ | refine ob4 ?_ | refine ob2 (fun _ => ?_) | intro _ | simp only [List.set])
    rw [e14_new.1, e14_new.2]
    repeat' (first | refine W ?_ | refine op2 ?_ | refine ob4 ?_ | refine ob2 (fun _ => ?_) | intro _ | simp only [List.set])
    rw [u1.1, u1.2]
    rcases Int.lt_trichotomy A B with h | h | h
    · have u3 := e14_upd (h := B) (t := 3 * B) (r := rb) l3 (by omega) (by omega) (e14_two (a := ⟨A, 3 * A, ra⟩) (s := ⟨B, 3 * B, rb⟩) (by dsimp only; omega) h (by dsimp only; omega) (by dsimp only; omega))
      have u4 := e14_upd (h := A) (t := 3 * A) (r := ra) l4 (by omega) (by omega) (e14_mid (a := ⟨B, 3 * B, rb⟩) (s := ⟨A, 3 * A, ra⟩) (by dsimp only; omega) h (by dsimp only; omega) (by dsimp only; omega))
      repeat' (first | refine W ?_ | refine op2 ?_ | refine ob4 ?_ | refine ob2 (fun _ => ?_) | intro _ | simp only [List.set])
      rw [u3.1, u3.2]
      repeat' (first | refine W ?_ | refine op2 ?_ | refine ob4 ?_ | refine ob2 (fun _ => ?_) | intro _ | simp only [List.set])
      rw [u2.1, u2.2]
      repeat' (first | refine W ?_ | refine op2 ?_ | refine ob4 ?_ | refine ob2 (fun _ => ?_) | intro _ | simp only [List.set])
      rw [u4.1, u4.2]
      repeat' (first | refine W ?_ | refine op2 ?_ | refine ob4 ?_ | refine ob2 (fun _ => ?_) | intro _ | simp only [List.set] | refine gdT ?_ | refine gdF ?_ | refine cdT ?_ | refine cdF ?_ | fail)
      refine reE ?_
      simp [outOf, e14]
    · obtain rfl : ra = rb := by rw [← hrr, if_pos h]
      subst h
      have u3 := e14_upd (h := A) (t := 3 * A) (r := ra) l3 (by omega) (by omega) (e14_same (s := ⟨A, 3 * A, ra⟩) (by dsimp only; omega))
      repeat' (first | refine W ?_ | refine op2 ?_ | refine ob4 ?_ | refine ob2 (fun _ => ?_) | intro _ | simp only [List.set])
      rw [u3.1, u3.2]
      repeat' (first | refine W ?_ | refine op2 ?_ | refine ob4 ?_ | refine ob2 (fun _ => ?_) | intro _ | simp only [List.set])
      rw [u1.1, u1.2]
      repeat' (first | refine W ?_ | refine op2 ?_ | refine ob4 ?_ | refine ob2 (fun _ => ?_) | intro _ | simp only [List.set])
      rw [u3.1, u3.2]
      repeat' (first | refine W ?_ | refine op2 ?_ | refine ob4 ?_ | refine ob2 (fun _ => ?_) | intro _ | simp only [List.set] | refine gdT ?_ | refine gdF ?_ | refine cdT ?_ | refine cdF ?_ | fail)
      refine reE ?_
      simp [outOf, e14]
    · have u3 := e14_upd (h := B) (t := 3 * B) (r := rb) l3 (by omega) (by omega) (e14_mid (a := ⟨A, 3 * A, ra⟩) (s := ⟨B, 3 * B, rb⟩) (by dsimp only; omega) h (by dsimp only; omega) (by dsimp only; omega))
      have u4 := e14_upd (h := A) (t := 3 * A) (r := ra) l4 (by omega) (by omega) (e14_two (a := ⟨B, 3 * B, rb⟩) (s := ⟨A, 3 * A, ra⟩) (by dsimp only; omega) h (by dsimp only; omega) (by dsimp only; omega))
      repeat' (first | refine W ?_ | refine op2 ?_ | refine ob4 ?_ | refine ob2 (fun _ => ?_) | intro _ | simp only [List.set])
      rw [u3.1, u3.2]
      repeat' (first | refine W ?_ | refine op2 ?_ | refine ob4 ?_ | refine ob2 (fun _ => ?_) | intro _ | simp only [List.set])
      rw [u2.1, u2.2]
      repeat' (first | refine W ?_ | refine op2 ?_ | refine ob4 ?_ | refine ob2 (fun _ => ?_) | intro _ | simp only [List.set])
      rw [u4.1, u4.2]
      repeat' (first | refine W ?_ | refine op2 ?_ | refine ob4 ?_ | refine ob2 (fun _ => ?_) | intro _ | simp only [List.set] | refine gdT ?_ | refine gdF ?_ | refine cdT ?_ | refine cdF ?_ | fail)
      refine reE ?_
      simp [outOf, e14]⟩
end Go.Proofs.YtkijoddconipoaaDoor
