/- Law 14: a law, walked. -/
import Derived.Test.YtkijoddconipoaaDoorP1
import Derived.Test.YtkijoddconipoaaDoorP2
import Derived.Test.YtkijoddconipoaaDoorP3
import Derived.Test.YtkijoddconipoaaDoorP4
import Derived.Test.YtkijoddconipoaaDoorQ1
import Derived.Test.YtkijoddconipoaaDoorQ2
import Derived.Test.YtkijoddconipoaaDoorK1
import Derived.Test.YtkijoddconipoaaDoorQ3
import Derived.Test.YtkijoddconipoaaDoorQ5
import Derived.Test.YtkijoddconipoaaDoorR1
import Derived.Test.YtkijoddconipoaaDoorR2
import Derived.Test.YtkijoddconipoaaDoorR3
import Derived.Test.YtkijoddconipoaaDoorR4
import Derived.Test.YtkijoddconipoaaDoorR5
namespace Go.Proofs.YtkijoddconipoaaDoor
open Go Go.RowKit Tw Av
theorem put_last {x : Cli} {s : Sta} (h : ∀ y ∈ x.l, y.h < s.h) (ht : ∀ y ∈ x.l, y.t ≤ s.t) : putC x s = { x with l := (x.l ++ [s]).drop (x.l.length + 1 - 32) } := by
  have e1 : atI x.l s.h = x.l.length := atI_none fun j hj => by have := h _ (List.getElem_mem hj); omega
  have e2 : atIs x.l s.h = false := atIs_out (by omega)
  have e3 : badAt x.l s (atI x.l s.h) = false := by
    rw [e1]
    rcases hl : x.l.length with _ | n
    · rw [bad_0, hl]
      rfl
    · have hn : n < x.l.length := by omega
      rw [bad_s hn, decide_eq_false (by omega)]
      have hm := List.getElem_mem hn
      have h1 := h _ hm
      have h2 := ht _ hm
      have : fol x.l[n] s = true := by simp [fol]; omega
      rw [this]
      rfl
  rw [put_ins e2 e3]
  simp only [insS, e1, List.take_length, List.drop_length]
/-- the states of heights lo to i -/
def loF (i : Nat) : Nat := if i ≤ 32 then 1 else i - 31
def fl14 (i : Nat) : List Sta := (List.range' (loF i) (i + 1 - loF i)).map fun (j : Nat) => ⟨j, 0, zeroH⟩
def full14 (i : Nat) : Cli := ⟨[97], [107, 101, 121], 10, false, fl14 i⟩
theorem fl_mem {i : Nat} {y : Sta} (h : y ∈ fl14 i) : (loF i : Int) ≤ y.h ∧ y.h ≤ i ∧ y.t = 0 := by
  unfold fl14 at h
  obtain ⟨j, hj, rfl⟩ := List.mem_map.1 h
  rw [List.mem_range'] at hj
  obtain ⟨k, hk, rfl⟩ := hj
  refine ⟨?_, ?_, rfl⟩ <;> simp only <;> omega
theorem fl_len {i : Nat} (h : 1 ≤ i) : (fl14 i).length = if i ≤ 32 then i else 32 := by
  unfold fl14 loF
  rw [List.length_map, List.length_range']
  split <;> omega
theorem fl_next {i : Nat} (h : 1 ≤ i) : (fl14 i ++ [(⟨(i + 1 : Nat), 0, zeroH⟩ : Sta)]).drop ((fl14 i).length + 1 - 32) = fl14 (i + 1) := by
  have hl := fl_len h
  have e1 : fl14 i ++ [(⟨(i + 1 : Nat), 0, zeroH⟩ : Sta)] = (List.range' (loF i) (i + 2 - loF i)).map fun (j : Nat) => (⟨j, 0, zeroH⟩ : Sta) := by
    unfold fl14
    have hlo : loF i ≤ i := by unfold loF; split <;> omega
    rw [show i + 2 - loF i = (i + 1 - loF i) + 1 by omega, List.range'_concat, List.map_append]
    simp only [List.map_cons, List.map_nil, Nat.one_mul]
    rw [show loF i + (i + 1 - loF i) = i + 1 by omega]
  rw [e1, hl, ← List.map_drop]
  unfold fl14 loF
  by_cases h1 : i + 1 ≤ 32
  · rw [if_pos (show i ≤ 32 by omega), if_pos (show i ≤ 32 by omega), if_pos h1, show i + 1 - 32 = 0 by omega, List.drop_zero]
  · by_cases h2 : i ≤ 32
    · obtain rfl : i = 32 := by omega
      rw [if_pos h2, if_pos h2, if_neg h1, List.drop_range']
    · rw [if_neg h2, if_neg h2, if_neg h1, List.drop_range', show 32 + 1 - 32 = 1 by omega, show i - 31 + 1 * 1 = i + 1 - 31 by omega, show i + 2 - (i - 31) - 1 = i + 1 + 1 - (i + 1 - 31) by omega]
theorem full_put {i : Nat} (h : 1 ≤ i) : putC (full14 i) ⟨(i + 1 : Nat), 0, zeroH⟩ = full14 (i + 1) := by
  rw [put_last (fun y hy => by have := fl_mem hy; dsimp only; omega) (fun y hy => by have := fl_mem hy; dsimp only; omega)]
  show (⟨[97], [107, 101, 121], 10, false, (fl14 i ++ [(⟨(i + 1 : Nat), 0, zeroH⟩ : Sta)]).drop ((fl14 i).length + 1 - 32)⟩ : Cli) = _
  rw [fl_next h]
  rfl
theorem full_lat {i : Nat} (h : 1 ≤ i) : latC (fl14 i) = ⟨i, 0, zeroH⟩ := by
  have hlo : loF i ≤ i := by unfold loF; split <;> omega
  unfold latC fl14
  rw [show i + 1 - loF i = (i - loF i) + 1 by omega, List.range'_concat, List.map_append]
  simp only [List.map_cons, List.map_nil, Nat.one_mul]
  rw [show loF i + (i - loF i) = i by omega, List.getLastD_eq_getLast?, List.getLast?_append]
  rfl
theorem full_ok {i : Nat} (h : 1 ≤ i) : CliOk (full14 i) := by
  have hl := fl_len h
  have ht := full_lat h
  refine ⟨?_, (by decide : [107, 101, 121].length ≤ 1000000), ?_, (by decide : (-4611686018427387904 : Int) ≤ 10), (by decide : (10 : Int) < 4611686018427387904)⟩
  · show (fl14 i).length ≤ 1000000
    rw [hl]
    split <;> omega
  · show _ ≤ (latC (fl14 i)).t ∧ (latC (fl14 i)).t ≤ _
    rw [ht]
    exact ⟨(by decide : (-4611686018427387904 : Int) ≤ 0), (by decide : (0 : Int) ≤ 4611686018427387904)⟩
theorem full_upd {i : Nat} (h : 1 ≤ i) (h2 : i ≤ 100) : updE (full14 i) ⟨[97], (i + 1 : Nat), 0, zeroH⟩ (sealOf [107, 101, 121] ⟨[97], (i + 1 : Nat), 0, zeroH⟩) 0 = 0 ∧ updC (full14 i) ⟨[97], (i + 1 : Nat), 0, zeroH⟩ (sealOf [107, 101, 121] ⟨[97], (i + 1 : Nat), 0, zeroH⟩) 0 = full14 (i + 1) := by
  have h3 := upd_ok (x := full14 i) (h := ⟨[97], (i + 1 : Nat), 0, zeroH⟩) (now := 0) (by
    unfold actC
    show (!false && decide (0 < (latC (fl14 i)).t + 10)) = true
    rw [full_lat h]
    rfl) (by simp [chkH]; omega) rfl
  exact ⟨h3.1, h3.2.trans (full_put h)⟩
theorem full_rise (i : Nat) : Rise (fl14 i) := by
  unfold fl14 Rise
  rw [List.pairwise_map]
  refine (List.pairwise_lt_range' (step := 1) (by omega)).imp fun h => ?_
  exact ⟨by dsimp only; omega, Int.le_refl _⟩
theorem full_find {i : Nat} {h : Int} : (findC (fl14 i) h).isSome = decide ((loF i : Int) ≤ h ∧ h ≤ i) := by
  rw [← findR_eq _ (full_rise i)]
  unfold findR
  rw [Bool.eq_iff_iff, List.find?_isSome, decide_eq_true_eq]
  constructor
  · rintro ⟨x, hx, hxh⟩
    have := fl_mem hx
    simp at hxh
    omega
  · rintro ⟨h1, h2⟩
    refine ⟨⟨h, 0, zeroH⟩, ?_, by simp⟩
    unfold fl14
    refine List.mem_map.2 ⟨h.toNat, ?_, ?_⟩
    · rw [List.mem_range']
      exact ⟨h.toNat - loF i, by omega, by omega⟩
    · simp only [Sta.mk.injEq, and_true]
      omega
theorem full_new : newR [107, 101, 121] 10 ⟨[97], 1, 0, zeroH⟩ = full14 1 ∧ newE [107, 101, 121] 10 ⟨[97], 1, 0, zeroH⟩ = 0 := by
  have h : mayC (newC [107, 101, 121] 10 ⟨[97], 1, 0, zeroH⟩) = true := by kernel_rfl
  unfold newR newE
  rw [if_pos h, if_pos h]
  exact ⟨rfl, rfl⟩
set_option maxHeartbeats 1000000 in
instance fnClientFull {n : Int} : Ans Tryd.prog GL 12 [int n] True (boo true) := ⟨fun _ => by
  have q1 := Int.emod_nonneg n (b := 16) (by omega)
  have q2 := Int.emod_lt_of_pos n (b := 16) (by omega)
  refine spec_enter Tryd.func12 rfl Tryd.ntmps12 rfl (fun _ hs => ?_)
  repeat' (first | refine W ?_ | refine op2 ?_ | refine ob4 ?_ | refine ob2 (fun _ => ?_) | intro _ | simp only [List.set])
  obtain ⟨N, hN⟩ : ∃ N : Nat, 26 + n % 16 = (N : Int) := ⟨(26 + n % 16).toNat, by omega⟩
  rw [full_new.1, full_new.2]
  rw [hN]
  repeat' (first | refine W ?_ | refine op2 ?_ | refine ob4 ?_ | refine ob2 (fun _ => ?_) | intro _ | simp only [List.set])
  rename_i g5 g6
  refine ac_loop (α := Nat) (fun i => [(3, boo true), (4, int N), (5, ptr g5), (6, ptr g6), (8, int i)]) (fun i => [.var g6 55 (cliA (full14 (i - 1))), .var g5 60 (.agg 35 [str [97], int (i - 1 : Nat), int 0, hA zeroH])])
    (fun i => 2 ≤ i ∧ i ≤ N + 1) (fun i => N + 1 - i) 2 ⟨rfl, rfl, rfl, rfl, rfl, trivial⟩ (List.Sublist.refl _) ⟨Nat.le_refl _, by omega⟩ ?_
  rintro i ⟨hi1, hi2⟩
  obtain ⟨i, rfl⟩ : ∃ j, i = j + 1 := ⟨i - 1, by omega⟩
  rw [Nat.add_sub_cancel]
  repeat' (first | refine W ?_ | refine op2 ?_ | refine ob4 ?_ | refine ob2 (fun _ => ?_) | intro _ | simp only [List.set])
  refine ac_cond (fun hlt => ?_) (fun hlt => ?_)
  · have hp : CliOk (full14 i) ∧ (((i + 1 : Nat) : Int)) ≤ 9223372036854775807 ∧ (0 : Int) ≤ 9223372036854775807 := ⟨full_ok (by omega), by omega, by omega⟩
    repeat' (first | refine W ?_ | refine op2 ?_ | refine ob4 ?_ | refine ob2 (fun _ => ?_) | intro _ | simp only [List.set])
    have hu := full_upd (i := i) (by omega) (by omega)
    rw [hu.1, hu.2]
    repeat' (first | refine W ?_ | refine op2 ?_ | refine ob4 ?_ | refine ob2 (fun _ => ?_) | intro _ | simp only [List.set])
    refine ae_round (i + 2) ⟨rfl, rfl, rfl, rfl, rfl, trivial⟩ ?_ ⟨by omega, by omega⟩ (by omega)
    repeat (first | exact List.nil_sublist _ | exact List.Sublist.refl _ | apply List.Sublist.cons_cons | apply List.Sublist.cons)
  · obtain rfl : i = N := by omega
    repeat' (first | refine W ?_ | refine op2 ?_ | refine ob4 ?_ | refine ob2 (fun _ => ?_) | intro _ | simp only [List.set])
    have hl := fl_len (i := i) (by omega)
    have hlat := full_lat (i := i) (by omega)
    have hfull : (full14 i).l = fl14 i := rfl
    have hml : ((fl14 i).map staA).length = (fl14 i).length := List.length_map _
    refine ac_cond (fun h3 => ?_) (fun h3 => ?_)
    · rw [if_neg (by omega)] at hl
      have hlo : loF i = i - 31 := by unfold loF; rw [if_neg (by omega)]
      repeat' (first | refine W ?_ | refine op2 ?_ | refine ob4 ?_ | refine ob2 (fun _ => ?_) | intro _ | simp only [List.set])
      rw [hfull]
      simp only [full_find]
      repeat' (first | refine W ?_ | refine op2 ?_ | refine ob4 ?_ | refine ob2 (fun _ => ?_) | intro _ | simp only [List.set] | refine gdT ?_ | refine gdF ?_ | refine cdT ?_ | refine cdF ?_ | fail)
      refine reE ?_
      rw [hfull, hlat]
      simp [outOf]
    · rw [if_pos (by omega)] at hl
      have hlo : loF i = 1 := by unfold loF; rw [if_pos (by omega)]
      repeat' (first | refine W ?_ | refine op2 ?_ | refine ob4 ?_ | refine ob2 (fun _ => ?_) | intro _ | simp only [List.set])
      rw [hfull]
      simp only [full_find]
      repeat' (first | refine W ?_ | refine op2 ?_ | refine ob4 ?_ | refine ob2 (fun _ => ?_) | intro _ | simp only [List.set] | refine gdT ?_ | refine gdF ?_ | refine cdT ?_ | refine cdF ?_ | fail)
      refine reE ?_
      rw [hfull, hlat]
      simp [outOf]⟩
end Go.Proofs.YtkijoddconipoaaDoor
