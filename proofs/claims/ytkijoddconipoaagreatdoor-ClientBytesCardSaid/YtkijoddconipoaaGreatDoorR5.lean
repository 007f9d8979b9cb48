/- Law 14: a law, walked. -/
import Derived.Test.YtkijoddconipoaaGreatDoorP1
import Derived.Test.YtkijoddconipoaaGreatDoorP2
import Derived.Test.YtkijoddconipoaaGreatDoorP3
import Derived.Test.YtkijoddconipoaaGreatDoorP4
import Derived.Test.YtkijoddconipoaaGreatDoorP5
import Derived.Test.YtkijoddconipoaaGreatDoorQ1
import Derived.Test.YtkijoddconipoaaGreatDoorQ2
import Derived.Test.YtkijoddconipoaaGreatDoorK1
import Derived.Test.YtkijoddconipoaaGreatDoorQ3
import Derived.Test.YtkijoddconipoaaGreatDoorQ5
import Derived.Test.YtkijoddconipoaaGreatDoorQ13
import Derived.Test.YtkijoddconipoaaGreatDoorQ14
import Derived.Test.YtkijoddconipoaaGreatDoorR1
import Derived.Test.YtkijoddconipoaaGreatDoorR2
import Derived.Test.YtkijoddconipoaaGreatDoorR3
import Derived.Test.YtkijoddconipoaaGreatDoorR17
import Derived.Test.YtkijoddconipoaaGreatDoorR4
namespace Go.Proofs.YtkijoddconipoaaGreatDoor
open Go Go.RowKit Tw Av
class Steps14 (xs : List AV) (l : outParam (List Stp14)) : Prop where
  out : xs = l.map s14A
instance {l : List Stp14} : Steps14 (l.map s14A) l := ⟨rfl⟩
structure CInv (B : Int) (x : Cli) : Prop where
  r : Rise x.l
  n : x.l.length ≤ 32
  t : ∀ s ∈ x.l, 0 ≤ s.t ∧ s.t ≤ B
theorem put_ckp (x : Cli) (s : Sta) : (putC x s).c = x.c ∧ (putC x s).k = x.k ∧ (putC x s).p = x.p := by
  unfold putC
  split
  · exact ⟨rfl, rfl, rfl⟩
  · split
    · exact ⟨rfl, rfl, rfl⟩
    · exact ⟨rfl, rfl, rfl⟩
theorem insS_mem {l : List Sta} {s x : Sta} (h : x ∈ insS l s) : x = s ∨ x ∈ l := by
  unfold insS at h
  have h := List.mem_of_mem_drop h
  rcases List.mem_append.1 h with h | h
  · exact .inr (List.mem_of_mem_take h)
  · rcases List.mem_cons.1 h with h | h
    · exact .inl h
    · exact .inr (List.mem_of_mem_drop h)
theorem insS_len {l : List Sta} {s : Sta} (h : l.length ≤ 32) : (insS l s).length ≤ 32 := by
  have := atI_le l s.h
  simp only [insS, List.length_drop, List.length_append, List.length_take, List.length_cons]
  omega
theorem CInv.put {B : Int} {x : Cli} {s : Sta} (h : CInv B x) (hs : 0 ≤ s.t ∧ s.t ≤ B) : CInv B (putC x s) := by
  by_cases h1 : atIs x.l s.h = true
  · by_cases h2 : x.l.getD (atI x.l s.h) zeroS = s
    · rw [put_same h1 h2]; exact h
    · rw [put_frz1 h1 h2]; exact ⟨h.r, h.n, h.t⟩
  · have h1 : atIs x.l s.h = false := by simpa using h1
    by_cases h2 : badAt x.l s (atI x.l s.h) = true
    · rw [put_frz2 h1 h2]; exact ⟨h.r, h.n, h.t⟩
    · have h2 : badAt x.l s (atI x.l s.h) = false := by simpa using h2
      rw [put_ins h1 h2]
      refine ⟨(h.r.ins h1 h2).sublist (List.drop_sublist _ _), insS_len h.n, fun y hy => ?_⟩
      rcases insS_mem hy with rfl | hy
      · exact hs
      · exact h.t y hy
theorem lastD_mem {α : Type} : ∀ (l : List α) (a : α), l.getLastD a = a ∨ l.getLastD a ∈ l
  | [], _ => .inl rfl
  | b :: l, a => by
    rw [List.getLastD_cons]
    rcases lastD_mem l b with h | h
    · exact .inr (by rw [h]; exact List.mem_cons_self)
    · exact .inr (List.mem_cons_of_mem _ h)
theorem CInv.lat {B : Int} {x : Cli} (h : CInv B x) (hB : 0 ≤ B) : 0 ≤ (latC x.l).t ∧ (latC x.l).t ≤ B := by
  rcases lastD_mem x.l zeroS with h1 | h1
  · unfold latC
    rw [h1]
    exact ⟨Int.le_refl _, hB⟩
  · exact h.t _ h1
theorem upd_inv {B : Int} {x : Cli} {h : Hdr} {mac : Hsh} {now : Int} (hi : CInv B x) (ht : 0 ≤ h.t ∧ h.t ≤ B) (h0 : updE x h mac now = 0) : CInv B (updC x h mac now) ∧ (updC x h mac now).k = x.k ∧ (updC x h mac now).p = x.p ∧ (updC x h mac now).c = x.c := by
  unfold updC
  rw [if_pos h0]
  obtain ⟨e1, e2, e3⟩ := put_ckp x (stOf h)
  exact ⟨hi.put (s := stOf h) ht, e2, e3, e1⟩
theorem new_inv {B : Int} {k : Bs} {p : Int} {x : Hdr} (h : newE k p x = 0) (ht : 0 ≤ x.t ∧ x.t ≤ B) : newR k p x = newC k p x ∧ CInv B (newC k p x) := by
  unfold newE at h
  unfold newR
  by_cases hm : mayC (newC k p x) = true
  · rw [if_pos hm]
    refine ⟨rfl, by simp [newC, Rise], by simp [newC], fun s hs => ?_⟩
    simp [newC] at hs
    subst hs
    exact ht
  · rw [if_neg hm] at h
    cases h
end Go.Proofs.YtkijoddconipoaaGreatDoor
