/- Chapter 10: gaps checked. -/
import Derived.Test.YtkijoddconipoaaGreatDoorP1
import Derived.Test.YtkijoddconipoaaGreatDoorP2
import Derived.Test.YtkijoddconipoaaGreatDoorP3
import Derived.Test.YtkijoddconipoaaGreatDoorP4
import Derived.Test.YtkijoddconipoaaGreatDoorP5
import Derived.Test.YtkijoddconipoaaGreatDoorQ1
import Derived.Test.YtkijoddconipoaaGreatDoorQ2
import Derived.Test.YtkijoddconipoaaGreatDoorK1
import Derived.Test.YtkijoddconipoaaGreatDoorQ3
import Derived.Test.YtkijoddconipoaaGreatDoorQ4
import Derived.Test.YtkijoddconipoaaGreatDoorQ5
import Derived.Test.YtkijoddconipoaaGreatDoorQ13
import Derived.Test.YtkijoddconipoaaGreatDoorQ14
import Derived.Test.YtkijoddconipoaaGreatDoorQ6
import Derived.Test.YtkijoddconipoaaGreatDoorQ7
import Derived.Test.YtkijoddconipoaaGreatDoorQ8
import Derived.Test.YtkijoddconipoaaGreatDoorQ10
import Derived.Test.YtkijoddconipoaaGreatDoorR10
namespace Go.Proofs.YtkijoddconipoaaGreatDoor
open Go Go.RowKit Tw Av
theorem fnd_at {l : List Ent} {i : Nat} (h : Srt l) (hi : i < l.length) : fndAt l l[i].key = i ∧ fndIs l l[i].key = true := by
  have h1 : fndAt l l[i].key = i := by
    refine fndAt_step hi (fun j hj => ?_) (blt_irrefl _)
    exact List.pairwise_iff_getElem.1 h j i (by omega) hi hj
  refine ⟨h1, ?_⟩
  rw [fndIs, h1, getD_at hi]
  simp [hi]
theorem memP_at {l : List Ent} {i : Nat} (h : Srt l) (hi : i < l.length) : memP l (fndAt l l[i].key) (fndIs l l[i].key) = atP l i := by
  obtain ⟨h1, h2⟩ := fnd_at h hi
  rw [h1, h2]
  rfl
instance fnRAbsent {d : List Ent} {k : Bs} {xs : List AV} {id : Option Value} [hx : Ents xs d] : Ans Tryz.prog GL 23 [.sl 2 xs id, str k] (d.length ≤ 2000 ∧ Srt d) (.tup [gpA (absG d (fndAt d k) (fndIs d k)), boo (!fndIs d k)]) := ⟨fun hpre => by
  obtain ⟨hl, hsr⟩ := hpre
  have h := hx.out
  subst h
  have hm : (d.map entA).length = d.length := List.length_map _
  refine spec_enter Tryz.func23 rfl Tryz.ntmps23 rfl (fun _ hs => ?_)
  repeat' (first | refine W ?_ | refine op2 ?_ | refine ob4 ?_ | refine ob2 (fun _ => ?_) | intro _ | simp only [List.set])
  cases hb : fndIs d k
  focus
    repeat' (first | refine W ?_ | refine op2 ?_ | refine ob4 ?_ | refine ob2 (fun _ => ?_) | intro _ | simp only [List.set])
    have hle := fndAt_le d k
    generalize fndAt d k = n at *
    have e2 : ∀ n : Nat, (((n + 1 : Nat) : Int) - 1) = n := fun n => by omega
    by_cases h1 : n < d.length
    all_goals
      rcases n with _ | n
      focus
        repeat' (first | refine W ?_ | refine op2 ?_ | refine ob4 ?_ | refine ob2 (fun _ => ?_) | intro _ | simp only [List.set] | refine gdT ?_ | refine gdF ?_ | refine cdT ?_ | refine cdF ?_ | fail)
      rotate_left
      focus
        repeat' (first | refine W ?_ | refine op2 ?_ | refine ob4 ?_ | refine ob2 (fun _ => ?_) | intro _ | simp only [List.set] | refine gdT ?_ | refine gdF ?_ | refine cdT ?_ | refine cdF ?_ | fail)
        rw [e2]
        repeat' (first | refine W ?_ | refine op2 ?_ | refine ob4 ?_ | refine ob2 (fun _ => ?_) | intro _ | simp only [List.set] | refine gdT ?_ | refine gdF ?_ | refine cdT ?_ | refine cdF ?_ | fail)
        rw [e2]
        repeat' (first | refine W ?_ | refine op2 ?_ | refine ob4 ?_ | refine ob2 (fun _ => ?_) | intro _ | simp only [List.set] | refine gdT ?_ | refine gdF ?_ | refine cdT ?_ | refine cdF ?_ | fail)
        rw [memP_at hsr (show n < d.length by omega)]
      all_goals
        try rw [memP_at hsr h1]
        refine reI ?_
        simp only [outOf, e2, hm, absG, atP, gpA, prfA, zeroP, Nat.lt_irrefl, Nat.zero_lt_succ, Nat.add_sub_cancel, h1, if_true, if_false, List.map_cons, List.map_nil, Bool.not_false, Bool.false_eq_true]
        try rw [getD_at (show n < d.length by omega)]
        try rw [getD_at h1]
        exact ImpR.imp
  focus
    repeat' (first | refine W ?_ | refine op2 ?_ | refine ob4 ?_ | refine ob2 (fun _ => ?_) | intro _ | simp only [List.set])
    refine reI ?_
    simp only [outOf, absG, gpA, prfA, if_true, zeroG, zeroP, List.map_nil, Bool.not_true]
    exact ImpR.imp⟩
set_option maxHeartbeats 1000000 in
instance fnMissing {root : Hsh} {k : Bs} {n i m i2 m2 : Int} {l r : List Ent} {p q : List Hsh} {xs ys zs ws : List AV} [hx : Ents xs l] [hy : Ents ys r] [hz : Hshs zs p] [hw : Hshs ws q] :
    Ans Tryz.prog GL 68 [hA root, str k, .agg 9 [int n, .sl 2 xs none, .sl 2 ys none, .agg 3 [int i, int m, .sl 32 zs none], .agg 3 [int i2, int m2, .sl 32 ws none]]] ((m ≤ 9223372036854775807 ∧ m2 ≤ 9223372036854775807) ∧ (-4611686018427387904 ≤ i ∧ i ≤ 4611686018427387904) ∧ -4611686018427387904 ≤ n ∧ n ≤ 4611686018427387904) (boo (missB root k ⟨n, l, r, ⟨i, m, p⟩, ⟨i2, m2, q⟩⟩)) := ⟨fun hpre => by
  obtain ⟨⟨c1, c2⟩, ⟨c3, c5⟩, c4, c6⟩ := hpre
  have h1 := hx.out
  have h2 := hy.out
  have h3 := hz.out
  have h4 := hw.out
  subst h1 h2 h3 h4
  refine spec_enter Tryz.func68 rfl Tryz.ntmps68 rfl (fun _ hs => ?_)
  repeat' (first | refine W ?_ | refine op2 ?_ | refine ob4 ?_ | refine ob2 (fun _ => ?_) | intro _ | simp only [List.set])
  rename_i g3 g4 g5
  refine al_makeFunc (vs := [.pointer (some ⟨g5, 0, none⟩), .pointer (some ⟨g3, 0, none⟩)]) ?_
  repeat' (first | refine W ?_ | refine op2 ?_ | refine ob4 ?_ | refine ob2 (fun _ => ?_) | intro _ | simp only [List.set])
  refine al_makeFunc (vs := [.pointer (some ⟨g4, 0, none⟩)]) ?_
  repeat' (first | refine W ?_ | refine op2 ?_ | refine ob4 ?_ | refine ob2 (fun _ => ?_) | intro _ | simp only [List.set])
  refine al_callV (args := [.sl 2 (l.map entA) none, prfA ⟨i, m, p⟩, fnv 108 [.pointer (some ⟨g4, 0, none⟩)]]) (cs := [.pointer (some ⟨g5, 0, none⟩), .pointer (some ⟨g3, 0, none⟩)])
    [.var g5 57 (gpA ⟨n, l, r, ⟨i, m, p⟩, ⟨i2, m2, q⟩⟩), .var g4 9 (str k), .var g3 33 (hA root)] [] (by rw [hs]; exact miss1 (bes := fun a => blt a k) (fun a => miss2) c1) (fun u m1 hh => ?_) (List.Perm.refl _)
  obtain ⟨rfl, rfl⟩ := hh
  unfold missB
  dsimp only
  cases hs1 : sideB root n (fun a => blt a k) l ⟨i, m, p⟩
  · repeat' (first | refine W ?_ | refine op2 ?_ | refine ob4 ?_ | refine ob2 (fun _ => ?_) | intro _ | simp only [List.set] | refine gdT ?_ | refine gdF ?_ | refine cdT ?_ | refine cdF ?_ | fail)
    refine reE ?_
    rfl
  · repeat' (first | refine W ?_ | refine op2 ?_ | refine ob4 ?_ | refine ob2 (fun _ => ?_) | intro _ | simp only [List.set])
    refine al_makeFunc (vs := [.pointer (some ⟨g4, 0, none⟩)]) ?_
    refine al_on ?_
    refine al_callV (args := [.sl 2 (r.map entA) none, prfA ⟨i2, m2, q⟩, fnv 109 [.pointer (some ⟨g4, 0, none⟩)]]) (cs := [.pointer (some ⟨g5, 0, none⟩), .pointer (some ⟨g3, 0, none⟩)])
      [.var g5 57 (gpA ⟨n, l, r, ⟨i, m, p⟩, ⟨i2, m2, q⟩⟩), .var g4 9 (str k), .var g3 33 (hA root)] [] (by rw [hs]; exact miss1 (bes := fun a => blt k a) (fun a => miss3) c2) (fun u m1 hh => ?_) (List.Perm.refl _)
    obtain ⟨rfl, rfl⟩ := hh
    cases hs2 : sideB root n (fun a => blt k a) r ⟨i2, m2, q⟩
    · repeat' (first | refine W ?_ | refine op2 ?_ | refine ob4 ?_ | refine ob2 (fun _ => ?_) | intro _ | simp only [List.set] | refine gdT ?_ | refine gdF ?_ | refine cdT ?_ | refine cdF ?_ | fail)
      refine reE ?_
      rfl
    · have h0 : ((([] : List Ent)).map entA).length = 0 := rfl
      rcases l with _ | ⟨x, l⟩
      · rcases r with _ | ⟨y, r⟩
        · by_cases hn : n = 0
          · repeat' (first | refine W ?_ | refine op2 ?_ | refine ob4 ?_ | refine ob2 (fun _ => ?_) | intro _ | simp only [List.set] | refine gdT ?_ | refine gdF ?_ | refine cdT ?_ | refine cdF ?_ | fail)
            rw [decide_eq_true hn]
            repeat' (first | refine W ?_ | refine op3 ?_ | refine ob5 ?_ | refine opE ?_ | refine obE ?_ | refine ob2 (fun _ => ?_) | intro _)
            apply obl_read []; exact rfl; exact rfl; kernel_rfl; intro _ _
            refine al_on ?_
            refine al_callI [.agg 1 [.sl 2 [] none]] (hp := Nat.zero_le _) ?_
            exact al_nil (ae_got rfl rfl)
            repeat' (first | refine W ?_ | refine op3 ?_ | refine ob5 ?_ | refine opE ?_ | refine obE ?_ | refine ob2 (fun _ => ?_) | intro _)
            refine reE ?_
            simp [outOf, hn, endB]
          · repeat' (first | refine W ?_ | refine op2 ?_ | refine ob4 ?_ | refine ob2 (fun _ => ?_) | intro _ | simp only [List.set] | refine gdT ?_ | refine gdF ?_ | refine cdT ?_ | refine cdF ?_ | fail)
            rw [decide_eq_false hn]
            repeat' (first | refine W ?_ | refine op3 ?_ | refine ob5 ?_ | refine opE ?_ | refine obE ?_ | refine ob2 (fun _ => ?_) | intro _)
            refine reE ?_
            simp [outOf, hn, endB]
        · have hmr : ((y :: r).map entA).length = r.length + 1 := by simp
          repeat' (first | refine W ?_ | refine op2 ?_ | refine ob4 ?_ | refine ob2 (fun _ => ?_) | intro _ | simp only [List.set] | refine gdT ?_ | refine gdF ?_ | refine cdT ?_ | refine cdF ?_ | fail)
          refine reE ?_
          rfl
      · have hml : ((x :: l).map entA).length = l.length + 1 := by simp
        rcases r with _ | ⟨y, r⟩
        · repeat' (first | refine W ?_ | refine op2 ?_ | refine ob4 ?_ | refine ob2 (fun _ => ?_) | intro _ | simp only [List.set] | refine gdT ?_ | refine gdF ?_ | refine cdT ?_ | refine cdF ?_ | fail)
          refine reE ?_
          rfl
        · have hmr : ((y :: r).map entA).length = r.length + 1 := by simp
          repeat' (first | refine W ?_ | refine op2 ?_ | refine ob4 ?_ | refine ob2 (fun _ => ?_) | intro _ | simp only [List.set] | refine gdT ?_ | refine gdF ?_ | refine cdT ?_ | refine cdF ?_ | fail)
          refine reE ?_
          rfl⟩
end Go.Proofs.YtkijoddconipoaaGreatDoor

namespace Go.Proofs.YtkijoddconipoaaGreatDoor
open Go Go.RowKit Tw Av
end Go.Proofs.YtkijoddconipoaaGreatDoor
