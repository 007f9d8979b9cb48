/- Clients: the references' update. -/
import Derived.Test.YtkijoddconipoaaGreatDoorP1
import Derived.Test.YtkijoddconipoaaGreatDoorP2
import Derived.Test.YtkijoddconipoaaGreatDoorP3
import Derived.Test.YtkijoddconipoaaGreatDoorP4
import Derived.Test.YtkijoddconipoaaGreatDoorP5
import Derived.Test.YtkijoddconipoaaGreatDoorQ1
import Derived.Test.YtkijoddconipoaaGreatDoorQ2
import Derived.Test.YtkijoddconipoaaGreatDoorK1
import Derived.Test.YtkijoddconipoaaGreatDoorQ3
import Derived.Test.YtkijoddconipoaaGreatDoorQ5
import Derived.Test.YtkijoddconipoaaGreatDoorQ13
import Derived.Test.YtkijoddconipoaaGreatDoorQ14
import Derived.Test.YtkijoddconipoaaGreatDoorR1
import Derived.Test.YtkijoddconipoaaGreatDoorR2
namespace Go.Proofs.YtkijoddconipoaaGreatDoor
open Go Go.RowKit Tw Av
theorem fold_hit {l : List Sta} {s : Sta} {i : Nat} {a : List Sta × Bool} (hi : i < l.length) (h : (l.take i).foldl (stepU s) (some ([], false)) = some a) (hh : hits s l[i] = true) : insR l s = none := by
  have : l.foldl (stepU s) (some ([], false)) = none := by
    have e : l = l.take i ++ l[i] :: l.drop (i + 1) := by rw [← List.drop_eq_getElem_cons hi, List.take_append_drop]
    rw [e, List.foldl_append, h, List.foldl_cons, stepU_some, if_pos hh, fold_none]
  unfold insR
  rw [this]
theorem fold_next {l : List Sta} {s : Sta} {i : Nat} {acc : List Sta} {put : Bool} (hi : i < l.length) (h : (l.take i).foldl (stepU s) (some ([], false)) = some (acc, put)) (hh : hits s l[i] = false) :
    (l.take (i + 1)).foldl (stepU s) (some ([], false)) = some (if put = false ∧ s.h < l[i].h then (acc ++ [s] ++ [l[i]], true) else (acc ++ [l[i]], put)) := by
  rw [List.take_succ_eq_append_getElem hi, List.foldl_append, h, List.foldl_cons, List.foldl_nil, stepU_some, if_neg (by rw [hh]; simp)]
  split <;> rfl
theorem ins_end {l : List Sta} {s : Sta} {acc : List Sta} {put : Bool} (h : l.foldl (stepU s) (some ([], false)) = some (acc, put)) : insR l s = some (if put = true then acc else acc ++ [s]) := by
  unfold insR
  rw [h]
  cases put <;> rfl
set_option maxHeartbeats 2000000 in
instance fnRUpdate {c k c' : Bs} {p h t now : Int} {f : Bool} {r mac : Hsh} {l : List Sta} {xs : List AV} {id : Option Value} [hx : Stas xs l] : Ans Tryz.prog GL 9 [.agg 5 [str c, str k, int p, boo f, .sl 34 xs id], .agg 35 [str c', int h, int t, hA r], hA mac, int now] (CliOk ⟨c, k, p, f, l⟩ ∧ (Rise l ∧ l.length ≤ 32) ∧ h ≤ 9223372036854775807 ∧ t ≤ 9223372036854775807) (.tup [cliA (updC ⟨c, k, p, f, l⟩ ⟨c', h, t, r⟩ mac now), int (updE ⟨c, k, p, f, l⟩ ⟨c', h, t, r⟩ mac now)]) := ⟨fun hpre => by
  obtain ⟨⟨p1, p2, ⟨p3, p4⟩, p5, p6⟩, ⟨hr, h32⟩, p7, p8⟩ := hpre
  dsimp only at p1 p2 p3 p4 p5 p6
  have hxo := hx.out
  subst hxo
  have hm : (l.map staA).length = l.length := List.length_map _
  refine spec_enter Tryz.func9 rfl Tryz.ntmps9 rfl (fun _ hs => ?_)
  repeat' (first | refine W ?_ | refine op2 ?_ | refine ob4 ?_ | refine ob2 (fun _ => ?_) | intro _ | simp only [List.set])
  cases ha : actC ⟨c, k, p, f, l⟩ now
  · obtain ⟨e1, e2⟩ := upd19 (h := ⟨c', h, t, r⟩) (mac := mac) ha
    rw [e1]
    repeat' (first | refine W ?_ | refine op2 ?_ | refine ob4 ?_ | refine ob2 (fun _ => ?_) | intro _ | simp only [List.set])
    refine reI ?_
    exact imp_zeroC' e2
  repeat' (first | refine W ?_ | refine op2 ?_ | refine ob4 ?_ | refine ob2 (fun _ => ?_) | intro _ | simp only [List.set])
  cases hc : chkH ⟨c', h, t, r⟩
  · obtain ⟨e1, e2⟩ := upd1 (mac := mac) ha (.inl hc)
    rw [e1]
    repeat' (first | refine W ?_ | refine op2 ?_ | refine ob4 ?_ | refine ob2 (fun _ => ?_) | intro _ | simp only [List.set])
    refine reI ?_
    exact imp_zeroC' e2
  repeat' (first | refine W ?_ | refine op2 ?_ | refine ob4 ?_ | refine ob2 (fun _ => ?_) | intro _ | simp only [List.set])
  by_cases hcc : c' ≠ c
  · obtain ⟨e1, e2⟩ := upd1 (h := ⟨c', h, t, r⟩) (mac := mac) ha (.inr hcc)
    rw [e1, decide_eq_true hcc]
    repeat' (first | refine W ?_ | refine op2 ?_ | refine ob4 ?_ | refine ob2 (fun _ => ?_) | intro _ | simp only [List.set])
    refine reI ?_
    exact imp_zeroC' e2
  rw [decide_eq_false hcc]
  have hcc : c' = c := Classical.not_not.1 hcc
  repeat' (first | refine W ?_ | refine op2 ?_ | refine ob4 ?_ | refine ob2 (fun _ => ?_) | intro _ | simp only [List.set])
  by_cases hmac : sealOf k ⟨c', h, t, r⟩ ≠ mac
  · obtain ⟨e1, e2⟩ := upd18 (x := ⟨c, k, p, f, l⟩) ha hc hcc hmac
    rw [e1, decide_eq_false (show ¬ sealOf k ⟨c', h, t, r⟩ = mac from hmac)]
    repeat' (first | refine W ?_ | refine op2 ?_ | refine ob4 ?_ | refine ob2 (fun _ => ?_) | intro _ | simp only [List.set])
    refine reI ?_
    exact imp_zeroC' e2
  have hmac : sealOf k ⟨c', h, t, r⟩ = mac := Classical.not_not.1 hmac
  obtain ⟨e1, e2⟩ := upd0 (x := ⟨c, k, p, f, l⟩) ha hc hcc hmac
  have e3 : updC ⟨c, k, p, f, l⟩ ⟨c', h, t, r⟩ mac now = putCR ⟨c, k, p, f, l⟩ ⟨h, t, r⟩ := e2.trans (putCR_eq hr h32).symm
  rw [e1, e3, decide_eq_true hmac]
  clear e1 e2 e3 p3 p4 p5 p6 p7 p8 ha hc hmac
  unfold putCR
  repeat' (first | refine W ?_ | refine op2 ?_ | refine ob4 ?_ | refine ob2 (fun _ => ?_) | intro _ | simp only [List.set])
  cases hfd : findR l h with
  | some o =>
    simp only [Option.getD_some, Option.isSome_some]
    repeat' (first | refine W ?_ | refine op2 ?_ | refine ob4 ?_ | refine ob2 (fun _ => ?_) | intro _ | simp only [List.set])
    rw [sta_eq (a := o)]
    by_cases ho : o = ⟨h, t, r⟩
    · rw [decide_eq_true ho, if_pos ho]
      repeat' (first | refine W ?_ | refine op2 ?_ | refine ob4 ?_ | refine ob2 (fun _ => ?_) | intro _ | simp only [List.set])
      refine reI ?_
      exact imp_cli
    · rw [decide_eq_false ho, if_neg ho]
      repeat' (first | refine W ?_ | refine op2 ?_ | refine ob4 ?_ | refine ob2 (fun _ => ?_) | intro _ | simp only [List.set])
      refine reI ?_
      exact imp_cli
  | none =>
    simp only [Option.getD_none, Option.isSome_none]
    repeat' (first | refine W ?_ | refine op2 ?_ | refine ob4 ?_ | refine ob2 (fun _ => ?_) | intro _ | simp only [List.set])
    rename_i g4 g5 g6 g8 hcc0 g12 g13 g15
    refine ac_as 16 (Imp.nil (k := 34)) ?_
    refine ac_st (fun ok w h => h.full 76 34 none 0) ?_
    have hcl0 : ∀ {put : Bool} {a b : List Sta}, (if put = true then a else b).length ≤ max a.length b.length := by
      intro put a b
      cases put <;> simp <;> omega
    refine ac_loop (α := Nat × Value × List Sta × Bool) (fun q => [(4, ptr g4), (8, ptr g8), (12, ptr g12), (15, ptr g15), (16, .sl 34 (q.2.2.1.map staA) (some q.2.1)), (17, boo q.2.2.2), (18, int q.1)])
      (fun q => [.tail 76 34 q.2.1, .var g15 28 (.agg 5 [str c, str k, int p, boo true, .sl 34 (l.map staA) id]), .var g12 76 (.agg 34 [int h, int t, hA r]), .var g8 28 (.agg 5 [str [], str [], int 0, boo false, nils]), .var g4 28 (.agg 5 [str c, str k, int p, boo f, .sl 34 (l.map staA) id])])
      (fun q => q.1 ≤ l.length ∧ (l.take q.1).foldl (stepU ⟨h, t, r⟩) (some ([], false)) = some (q.2.2.1, q.2.2.2) ∧ q.2.2.1.length ≤ 2 * q.1) (fun q => l.length - q.1) (0, .slice none 0 0, [], false) ⟨rfl, rfl, rfl, rfl, rfl, rfl, rfl, trivial⟩ ?_ ⟨Nat.zero_le _, rfl, Nat.zero_le _⟩ ?_
    · repeat (first | exact List.nil_sublist _ | exact List.Sublist.refl _ | apply List.Sublist.cons_cons | apply List.Sublist.cons)
    rintro ⟨i, v, acc, put⟩ ⟨hi, hfo, hal⟩
    dsimp only at hi hfo hal ⊢
    have hmacc : (acc.map staA).length = acc.length := List.length_map _
    repeat' (first | refine W ?_ | refine op2 ?_ | refine ob4 ?_ | refine ob2 (fun _ => ?_) | intro _ | simp only [List.set])
    refine ac_cond (fun hlt => ?_) (fun hlt => ?_)
    · have hil : i < l.length := by omega
      have hnx := fun hh => fold_next hil hfo hh
      repeat' (first | refine W ?_ | refine op2 ?_ | refine ob4 ?_ | refine ob2 (fun _ => ?_) | intro _ | simp only [List.set])
      rename_i g19
      by_cases hhit : hits ⟨h, t, r⟩ l[i] = true
      · have hno := fold_hit hil hfo hhit
        rw [hno]
        simp [hits] at hhit
        rcases hhit with ⟨a1, a2⟩ | ⟨a1, a2⟩
        all_goals
          repeat' (first | refine W ?_ | refine op2 ?_ | refine ob4 ?_ | refine ob2 (fun _ => ?_) | intro _ | simp only [List.set] | refine gdT ?_ | refine gdF ?_ | refine cdT ?_ | refine cdF ?_ | fail)
          refine reI ?_
          exact imp_cli (f := true)
      · have hhit : hits ⟨h, t, r⟩ l[i] = false := by simpa using hhit
        have hnx := hnx hhit
        simp [hits] at hhit
        have hone : (acc ++ [l[i]]).map staA = acc.map staA ++ [staA l[i]] := by simp
        have htwo : (acc ++ [(⟨h, t, r⟩ : Sta)] ++ [l[i]]).map staA = acc.map staA ++ [staA ⟨h, t, r⟩] ++ [staA l[i]] := by simp
        cases put
        · by_cases a1 : h < l[i].h
          · rw [if_pos ⟨rfl, a1⟩] at hnx
            repeat' (first | refine W ?_ | refine op2 ?_ | refine ob4 ?_ | refine ob2 (fun _ => ?_) | intro _ | simp only [List.set] | refine gdT ?_ | refine gdF ?_ | refine cdT ?_ | refine cdF ?_ | fail)
            refine al_append (fun v1 => ?_)
            repeat' (first | refine W ?_ | refine op2 ?_ | refine ob4 ?_ | refine ob2 (fun _ => ?_) | intro _ | simp only [List.set] | refine gdT ?_ | refine gdF ?_ | refine cdT ?_ | refine cdF ?_ | fail)
            refine al_append (fun v2 => ?_)
            repeat' (first | refine W ?_ | refine op2 ?_ | refine ob4 ?_ | refine ob2 (fun _ => ?_) | intro _ | simp only [List.set] | refine gdT ?_ | refine gdF ?_ | refine cdT ?_ | refine cdF ?_ | fail)
            refine ae_as 16 (v' := .sl 34 ((acc ++ [(⟨h, t, r⟩ : Sta)] ++ [l[i]]).map staA) (some v2)) (Imp.of_eq (by rw [htwo])) ?_
            refine ae_round (i + 1, v2, acc ++ [(⟨h, t, r⟩ : Sta)] ++ [l[i]], true) ⟨rfl, rfl, rfl, rfl, rfl, rfl, rfl, trivial⟩ ?_ ⟨hil, hnx, by simp; omega⟩ (by dsimp only; omega)
            repeat (first | exact List.nil_sublist _ | exact List.Sublist.refl _ | apply List.Sublist.cons_cons | apply List.Sublist.cons)
          · rw [if_neg (fun hh => a1 hh.2)] at hnx
            by_cases a2 : l[i].h < h
            all_goals
              repeat' (first | refine W ?_ | refine op2 ?_ | refine ob4 ?_ | refine ob2 (fun _ => ?_) | intro _ | simp only [List.set] | refine gdT ?_ | refine gdF ?_ | refine cdT ?_ | refine cdF ?_ | fail)
              refine al_append (fun v2 => ?_)
              repeat' (first | refine W ?_ | refine op2 ?_ | refine ob4 ?_ | refine ob2 (fun _ => ?_) | intro _ | simp only [List.set] | refine gdT ?_ | refine gdF ?_ | refine cdT ?_ | refine cdF ?_ | fail)
              refine ae_as 16 (v' := .sl 34 ((acc ++ [l[i]]).map staA) (some v2)) (Imp.of_eq (by rw [hone])) ?_
              refine ae_round (i + 1, v2, acc ++ [l[i]], false) ⟨rfl, rfl, rfl, rfl, rfl, rfl, rfl, trivial⟩ ?_ ⟨hil, hnx, by simp; omega⟩ (by dsimp only; omega)
              repeat (first | exact List.nil_sublist _ | exact List.Sublist.refl _ | apply List.Sublist.cons_cons | apply List.Sublist.cons)
        · rw [if_neg (fun hh => by cases hh.1)] at hnx
          by_cases a1 : h < l[i].h
          · repeat' (first | refine W ?_ | refine op2 ?_ | refine ob4 ?_ | refine ob2 (fun _ => ?_) | intro _ | simp only [List.set] | refine gdT ?_ | refine gdF ?_ | refine cdT ?_ | refine cdF ?_ | fail)
            refine al_append (fun v2 => ?_)
            repeat' (first | refine W ?_ | refine op2 ?_ | refine ob4 ?_ | refine ob2 (fun _ => ?_) | intro _ | simp only [List.set] | refine gdT ?_ | refine gdF ?_ | refine cdT ?_ | refine cdF ?_ | fail)
            refine ae_as 16 (v' := .sl 34 ((acc ++ [l[i]]).map staA) (some v2)) (Imp.of_eq (by rw [hone])) ?_
            refine ae_round (i + 1, v2, acc ++ [l[i]], true) ⟨rfl, rfl, rfl, rfl, rfl, rfl, rfl, trivial⟩ ?_ ⟨hil, hnx, by simp; omega⟩ (by dsimp only; omega)
            repeat (first | exact List.nil_sublist _ | exact List.Sublist.refl _ | apply List.Sublist.cons_cons | apply List.Sublist.cons)
          · by_cases a2 : l[i].h < h
            all_goals
              repeat' (first | refine W ?_ | refine op2 ?_ | refine ob4 ?_ | refine ob2 (fun _ => ?_) | intro _ | simp only [List.set] | refine gdT ?_ | refine gdF ?_ | refine cdT ?_ | refine cdF ?_ | fail)
              refine al_append (fun v2 => ?_)
              repeat' (first | refine W ?_ | refine op2 ?_ | refine ob4 ?_ | refine ob2 (fun _ => ?_) | intro _ | simp only [List.set] | refine gdT ?_ | refine gdF ?_ | refine cdT ?_ | refine cdF ?_ | fail)
              refine ae_as 16 (v' := .sl 34 ((acc ++ [l[i]]).map staA) (some v2)) (Imp.of_eq (by rw [hone])) ?_
              refine ae_round (i + 1, v2, acc ++ [l[i]], true) ⟨rfl, rfl, rfl, rfl, rfl, rfl, rfl, trivial⟩ ?_ ⟨hil, hnx, by simp; omega⟩ (by dsimp only; omega)
              repeat (first | exact List.nil_sublist _ | exact List.Sublist.refl _ | apply List.Sublist.cons_cons | apply List.Sublist.cons)
    · obtain rfl : i = l.length := by omega
      rw [List.take_length] at hfo
      rw [ins_end hfo]
      repeat' (first | refine W ?_ | refine op2 ?_ | refine ob4 ?_ | refine ob2 (fun _ => ?_) | intro _ | simp only [List.set])
      have hone : (acc ++ [(⟨h, t, r⟩ : Sta)]).map staA = acc.map staA ++ [staA ⟨h, t, r⟩] := by simp
      refine ac_mid (α := Value) (fun v => [(4, ptr g4), (8, ptr g8), (16, .sl 34 ((if put = true then acc else acc ++ [(⟨h, t, r⟩ : Sta)]).map staA) (some v))]) (fun _ => [.var g8 28 (.agg 5 [str [], str [], int 0, boo false, nils]), .var g4 28 (.agg 5 [str c, str k, int p, boo f, .sl 34 (l.map staA) id])]) ?_ (fun v => ?_)
      · cases put
        · repeat' (first | refine W ?_ | refine op2 ?_ | refine ob4 ?_ | refine ob2 (fun _ => ?_) | intro _ | simp only [List.set])
          refine al_append (fun v2 => ?_)
          repeat' (first | refine W ?_ | refine op2 ?_ | refine ob4 ?_ | refine ob2 (fun _ => ?_) | intro _ | simp only [List.set])
          refine ae_cut v2 ⟨rfl, rfl, by rw [← hone]; rfl, trivial⟩ ?_
          repeat (first | exact List.nil_sublist _ | exact List.Sublist.refl _ | apply List.Sublist.cons_cons | apply List.Sublist.cons)
        · repeat' (first | refine W ?_ | refine op2 ?_ | refine ob4 ?_ | refine ob2 (fun _ => ?_) | intro _ | simp only [List.set])
          refine ae_cut v ⟨rfl, rfl, rfl, trivial⟩ ?_
          repeat (first | exact List.nil_sublist _ | exact List.Sublist.refl _ | apply List.Sublist.cons_cons | apply List.Sublist.cons)
      · have hle : (if put = true then acc else acc ++ [(⟨h, t, r⟩ : Sta)]).length ≤ 66 := by
          cases put <;> simp <;> omega
        generalize (if put = true then acc else acc ++ [(⟨h, t, r⟩ : Sta)]) = L at *
        have hmL : (L.map staA).length = L.length := List.length_map _
        simp only [cutR]
        repeat' (first | refine W ?_ | refine op2 ?_ | refine ob4 ?_ | refine ob2 (fun _ => ?_) | intro _ | simp only [List.set])
        refine ac_cond (fun h9 => ?_) (fun h9 => ?_)
        · rw [if_pos (show 32 < L.length by omega)]
          repeat' (first | refine W ?_ | refine op2 ?_ | refine ob4 ?_ | refine ob2 (fun _ => ?_) | intro _ | simp only [List.set])
          refine al_sliceD 1 L.length ?_
          rw [← hmL, List.take_length, ← List.map_drop]
          repeat' (first | refine W ?_ | refine op2 ?_ | refine ob4 ?_ | refine ob2 (fun _ => ?_) | intro _ | simp only [List.set])
          refine reI ?_
          exact imp_cli
        · rw [if_neg (show ¬ 32 < L.length by omega)]
          repeat' (first | refine W ?_ | refine op2 ?_ | refine ob4 ?_ | refine ob2 (fun _ => ?_) | intro _ | simp only [List.set])
          refine reI ?_
          exact imp_cli⟩
end Go.Proofs.YtkijoddconipoaaGreatDoor
