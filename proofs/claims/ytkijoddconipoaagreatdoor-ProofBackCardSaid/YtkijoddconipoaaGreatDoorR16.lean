/- Law 10: what is right, proofs changed. -/
import Derived.Test.YtkijoddconipoaaGreatDoorP1
import Derived.Test.YtkijoddconipoaaGreatDoorP2
import Derived.Test.YtkijoddconipoaaGreatDoorP3
import Derived.Test.YtkijoddconipoaaGreatDoorP4
import Derived.Test.YtkijoddconipoaaGreatDoorP5
import Derived.Test.YtkijoddconipoaaGreatDoorQ1
import Derived.Test.YtkijoddconipoaaGreatDoorQ2
import Derived.Test.YtkijoddconipoaaGreatDoorK1
import Derived.Test.YtkijoddconipoaaGreatDoorQ3
import Derived.Test.YtkijoddconipoaaGreatDoorQ4
import Derived.Test.YtkijoddconipoaaGreatDoorQ5
import Derived.Test.YtkijoddconipoaaGreatDoorQ13
import Derived.Test.YtkijoddconipoaaGreatDoorQ14
import Derived.Test.YtkijoddconipoaaGreatDoorQ6
import Derived.Test.YtkijoddconipoaaGreatDoorQ7
import Derived.Test.YtkijoddconipoaaGreatDoorQ8
import Derived.Test.YtkijoddconipoaaGreatDoorQ10
import Derived.Test.YtkijoddconipoaaGreatDoorR10
import Derived.Test.YtkijoddconipoaaGreatDoorR11
import Derived.Test.YtkijoddconipoaaGreatDoorR12
import Derived.Test.YtkijoddconipoaaGreatDoorR19
import Derived.Test.YtkijoddconipoaaGreatDoorR13
import Derived.Test.YtkijoddconipoaaGreatDoorR14
import Derived.Test.YtkijoddconipoaaGreatDoorR15
namespace Av
open Go Go.RowKit Tw
section
variable {P : Program} {N : Nat} {s : Base} {e : Env} {m : List Piece}
/-- a function's end by a contract of whatever kind, its answer told otherwise -/
theorem reIK {fn : Func} {K : AV → List Piece → Prop} {rs : List ResultVar} {vs : List AV} (out : AV) (h : Imp (outOf vs) out) (hK : K out []) (hr : fn.results = rs.toArray := by exact rfl) (hh : Ress P N s e m rs vs := by
    repeat (first | exact Av.ress_nil | (apply Av.ress_cons; (first | (apply Av.res_tmp; exact rfl; exact rfl) | (apply Av.res_cell; exact rfl; (repeat (first | exact Av.Has.here | apply Av.Has.there)); exact rfl))))) : AE N .ret (bodyPost P fn (Back s K)) s e m := AE.mk fun ok w a hS ha => by
  have h1 := (ae_ret (K := fun v m' => v = outOf vs ∧ m' = []) (m := m) hr hh (.inl rfl) ⟨rfl, rfl⟩ (List.nil_sublist _)).run ok w a hS ha
  obtain ⟨d, cv, r, v, m'', ok', cv', ⟨rfl, rfl⟩, e1, hv, hS'⟩ := h1
  exact ⟨d, cv, r, out, [], ok', cv', hK, e1, h _ _ _ hv, hS'⟩
end
end Av
namespace Go.Proofs.YtkijoddconipoaaGreatDoor
open Go Go.RowKit Tw Av
instance {k : Nat} : ImpT (.lit (.slice none 0 0)) (.sl k [] (some (.slice none 0 0))) := ⟨ImpC.nilS⟩
abbrev gpR (A : Option Addr) (x : Gp) : AV := .agg 9 [int x.n, .sl 2 (x.l.map entA) none, .sl 2 (x.r.map entA) (some (.slice A x.r.length x.r.length)), prfA x.a, prfA x.b]
theorem rabsK {d : List Ent} {k : Bs} (hl : d.length ≤ 2000) (hsr : Srt d) : Av.Spec Tryz.prog GL 23 [.sl 2 (d.map entA) none, str k] [] fun v m => ∃ A, v = .tup [gpR A (absG d (fndAt d k) (fndIs d k)), boo (!fndIs d k)] ∧ m = [] := by
  have hm : (d.map entA).length = d.length := List.length_map _
  refine spec_enter Tryz.func23 rfl Tryz.ntmps23 rfl (fun _ hs => ?_)
  repeat' (first | refine W ?_ | refine op2 ?_ | refine ob4 ?_ | refine ob2 (fun _ => ?_) | intro _ | simp only [List.set])
  cases hb : fndIs d k
  focus
    repeat' (first | refine ct1 ?_ | refine op1 ?_ | refine op2 ?_ | intro _ | simp only [List.set] | refine gdT ?_ | refine gdF ?_ | refine cdT ?_ | refine cdF ?_ | fail)
    have hle := fndAt_le d k
    generalize fndAt d k = n at *
    have e2 : ∀ n : Nat, (((n + 1 : Nat) : Int) - 1) = n := fun n => by omega
    by_cases h1 : n < d.length
    focus
      rcases n with _ | n
      focus
        repeat' (first | refine ct1 ?_ | refine op1 ?_ | refine op2 ?_ | intro _ | simp only [List.set] | refine gdT ?_ | refine gdF ?_ | refine cdT ?_ | refine cdF ?_ | fail)
      rotate_left
      focus
        repeat' (first | refine ct1 ?_ | refine op1 ?_ | refine op2 ?_ | intro _ | simp only [List.set] | refine gdT ?_ | refine gdF ?_ | refine cdT ?_ | refine cdF ?_ | fail)
        rw [e2]
        repeat' (first | refine ct1 ?_ | refine op1 ?_ | refine op2 ?_ | intro _ | simp only [List.set] | refine gdT ?_ | refine gdF ?_ | refine cdT ?_ | refine cdF ?_ | fail)
        refine opL ?_
        repeat' (first | refine ct1 ?_ | refine op1 ?_ | refine op2 ?_ | intro _ | simp only [List.set] | refine gdT ?_ | refine gdF ?_ | refine cdT ?_ | refine cdF ?_ | fail)
        rw [e2]
        repeat' (first | refine ct1 ?_ | refine op1 ?_ | refine op2 ?_ | intro _ | simp only [List.set] | refine gdT ?_ | refine gdF ?_ | refine cdT ?_ | refine cdF ?_ | fail)
        rw [memP_at hsr (show n < d.length by omega)]
      all_goals
        refine al_buildB (fun g => ?_)
        refine al_freeze 49 ?_
        repeat' (first | refine ct1 ?_ | refine op1 ?_ | refine op2 ?_ | intro _ | simp only [List.set] | refine gdT ?_ | refine gdF ?_ | refine cdT ?_ | refine cdF ?_ | fail)
        rw [memP_at hsr h1]
        repeat' (first | refine ct1 ?_ | refine op1 ?_ | refine op2 ?_ | intro _ | simp only [List.set] | refine gdT ?_ | refine gdF ?_ | refine cdT ?_ | refine cdF ?_ | fail)
        refine reIK (.tup [gpR (some ⟨g, 0, none⟩) (absG d _ false), boo true]) ?_ ⟨_, rfl, rfl⟩
        simp only [outOf, e2, hm, absG, atP, gpR, prfA, zeroP, Nat.lt_irrefl, Nat.zero_lt_succ, Nat.add_sub_cancel, h1, if_true, if_false, List.map_cons, List.map_nil, Bool.not_false, Bool.false_eq_true, List.length_cons, List.length_nil]
        try rw [getD_at (show n < d.length by omega)]
        try rw [getD_at h1]
        exact ImpR.imp
    focus
      rcases n with _ | n
      focus
        repeat' (first | refine ct1 ?_ | refine op1 ?_ | refine op2 ?_ | intro _ | simp only [List.set] | refine gdT ?_ | refine gdF ?_ | refine cdT ?_ | refine cdF ?_ | fail)
      rotate_left
      focus
        repeat' (first | refine ct1 ?_ | refine op1 ?_ | refine op2 ?_ | intro _ | simp only [List.set] | refine gdT ?_ | refine gdF ?_ | refine cdT ?_ | refine cdF ?_ | fail)
        rw [e2]
        repeat' (first | refine ct1 ?_ | refine op1 ?_ | refine op2 ?_ | intro _ | simp only [List.set] | refine gdT ?_ | refine gdF ?_ | refine cdT ?_ | refine cdF ?_ | fail)
        refine opL ?_
        repeat' (first | refine ct1 ?_ | refine op1 ?_ | refine op2 ?_ | intro _ | simp only [List.set] | refine gdT ?_ | refine gdF ?_ | refine cdT ?_ | refine cdF ?_ | fail)
        rw [e2]
        repeat' (first | refine ct1 ?_ | refine op1 ?_ | refine op2 ?_ | intro _ | simp only [List.set] | refine gdT ?_ | refine gdF ?_ | refine cdT ?_ | refine cdF ?_ | fail)
        rw [memP_at hsr (show n < d.length by omega)]
        repeat' (first | refine ct1 ?_ | refine op1 ?_ | refine op2 ?_ | intro _ | simp only [List.set] | refine gdT ?_ | refine gdF ?_ | refine cdT ?_ | refine cdF ?_ | fail)
      all_goals
        refine reIK (.tup [gpR none (absG d _ false), boo true]) ?_ ⟨_, rfl, rfl⟩
        simp only [outOf, e2, hm, absG, atP, gpR, prfA, zeroP, Nat.lt_irrefl, Nat.zero_lt_succ, Nat.add_sub_cancel, h1, if_true, if_false, List.map_cons, List.map_nil, Bool.not_false, Bool.false_eq_true, List.length_nil]
        try rw [getD_at (show n < d.length by omega)]
        exact ImpR.imp
  focus
    repeat' (first | refine ct1 ?_ | refine op1 ?_ | refine op2 ?_ | intro _ | simp only [List.set] | refine gdT ?_ | refine gdF ?_ | refine cdT ?_ | refine cdF ?_ | fail)
    refine reIK (.tup [gpR none (absG d _ true), boo false]) ?_ ⟨_, rfl, rfl⟩
    simp only [outOf, absG, gpR, prfA, if_true, zeroG, zeroP, List.map_nil, Bool.not_true, List.length_nil]
    exact ImpR.imp
end Go.Proofs.YtkijoddconipoaaGreatDoor

namespace Go.Proofs.YtkijoddconipoaaGreatDoor
open Go Go.RowKit Tw Av
structure PB (B : Int) (p : Prf) : Prop where
  a : -B ≤ p.a ∧ p.a ≤ B
  m : -B ≤ p.m ∧ p.m ≤ B
  l : (p.p.length : Int) ≤ B
theorem chP_pb {B : Int} {c : Chg} {p : Prf} (h : PB B p) (h0 : 0 ≤ B) : PB (B + 1) (chP c p) := by
  obtain ⟨⟨h1, h2⟩, ⟨h3, h4⟩, h5⟩ := h
  unfold chP
  split
  · exact ⟨⟨by dsimp only; omega, by dsimp only; omega⟩, ⟨by dsimp only; omega, by dsimp only; omega⟩, by dsimp only; omega⟩
  split
  · exact ⟨⟨by dsimp only; omega, by dsimp only; omega⟩, ⟨by dsimp only; omega, by dsimp only; omega⟩, by dsimp only; omega⟩
  split
  · exact ⟨⟨by dsimp only; omega, by dsimp only; omega⟩, ⟨by dsimp only; omega, by dsimp only; omega⟩, by simp only [List.length_set]; omega⟩
  split
  · exact ⟨⟨by dsimp only; omega, by dsimp only; omega⟩, ⟨by dsimp only; omega, by dsimp only; omega⟩, by simp only [List.length_append, List.length_cons, List.length_nil]; omega⟩
  split
  · exact ⟨⟨by dsimp only; omega, by dsimp only; omega⟩, ⟨by dsimp only; omega, by dsimp only; omega⟩, by simp only [List.length_take]; omega⟩
  · exact ⟨⟨by omega, by omega⟩, ⟨by omega, by omega⟩, by omega⟩
theorem zeroP_pb : PB 10 zeroP := ⟨by decide, by decide, by decide⟩
theorem atP_pb {d : List Ent} {i : Int} (hd : d.length ≤ 10) (h0 : -1 ≤ i) (h1 : i ≤ 10) : PB 10 (atP d i) := by
  have := atP_len hd i
  exact ⟨by simp only [atP]; omega, by simp only [atP]; omega, by omega⟩
theorem memP_pb {d : List Ent} {i : Nat} {b : Bool} (hd : d.length ≤ 10) (h : i ≤ d.length) : PB 10 (memP d i b) := by
  unfold memP
  split
  · exact atP_pb hd (by omega) (by omega)
  · exact zeroP_pb
structure GB (G : Gp) : Prop where
  n : 0 ≤ G.n ∧ G.n ≤ 10
  l : G.l.length ≤ 1
  r : G.r.length ≤ 1
  a : PB 10 G.a
  b : PB 10 G.b
theorem absG_gb {d : List Ent} {n : Nat} {b : Bool} (hd : d.length ≤ 10) (hn : n ≤ d.length) : GB (absG d n b) := by
  unfold absG
  split
  · exact ⟨by decide, by decide, by decide, zeroP_pb, zeroP_pb⟩
  · refine ⟨by dsimp only; omega, ?_, ?_, ?_, ?_⟩
    · dsimp only
      split <;> simp
    · dsimp only
      split <;> simp
    · dsimp only
      split
      · exact atP_pb hd (by omega) (by omega)
      · exact zeroP_pb
    · dsimp only
      split
      · exact atP_pb hd (by omega) (by omega)
      · exact zeroP_pb
theorem fnd_lt {l : List Ent} {k : Bs} (h : fndIs l k = true) : fndAt l k < l.length := by
  rw [fndIs] at h
  exact (of_decide_eq_true h).1
end Go.Proofs.YtkijoddconipoaaGreatDoor
