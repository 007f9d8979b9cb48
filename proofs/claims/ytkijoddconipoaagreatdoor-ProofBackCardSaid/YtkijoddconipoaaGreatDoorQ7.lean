/- Ways, walked. -/
import Derived.Test.YtkijoddconipoaaGreatDoorP1
import Derived.Test.YtkijoddconipoaaGreatDoorP2
import Derived.Test.YtkijoddconipoaaGreatDoorP3
import Derived.Test.YtkijoddconipoaaGreatDoorP4
import Derived.Test.YtkijoddconipoaaGreatDoorP5
import Derived.Test.YtkijoddconipoaaGreatDoorQ1
import Derived.Test.YtkijoddconipoaaGreatDoorQ2
import Derived.Test.YtkijoddconipoaaGreatDoorK1
import Derived.Test.YtkijoddconipoaaGreatDoorQ3
import Derived.Test.YtkijoddconipoaaGreatDoorQ4
import Derived.Test.YtkijoddconipoaaGreatDoorQ5
import Derived.Test.YtkijoddconipoaaGreatDoorQ13
import Derived.Test.YtkijoddconipoaaGreatDoorQ14
import Derived.Test.YtkijoddconipoaaGreatDoorQ6
namespace Go.Proofs.YtkijoddconipoaaGreatDoor
open Go Go.RowKit Tw Av
/-- a list, turned as far as i from both ends -/
def rv {α : Type} (z : α) (l : List α) (i : Nat) : List α := (List.range l.length).map fun q => if q < i ∨ l.length - i ≤ q then l.getD (l.length - 1 - q) z else l.getD q z
theorem rv_len {α : Type} (z : α) (l : List α) (i : Nat) : (rv z l i).length = l.length := by simp [rv]
theorem rv_get {α : Type} (z : α) (l : List α) (i q : Nat) (h : q < l.length) : (rv z l i)[q]? = some (if q < i ∨ l.length - i ≤ q then l.getD (l.length - 1 - q) z else l.getD q z) := by simp [rv, h]
theorem rv_zero {α : Type} (z : α) (l : List α) : rv z l 0 = l := by
  apply List.ext_getElem?
  intro q
  rcases Nat.lt_or_ge q l.length with h | h
  · rw [rv_get z l 0 q h, if_neg (by omega)]
    simp [List.getD, h]
  · rw [List.getElem?_eq_none (by rw [rv_len]; exact h), List.getElem?_eq_none h]
theorem rv_end {α : Type} (z : α) (l : List α) (i : Nat) (h : l.length ≤ 2 * i + 1) (hi : 2 * i ≤ l.length) : rv z l i = l.reverse := by
  apply List.ext_getElem?
  intro q
  rcases Nat.lt_or_ge q l.length with hq | hq
  · rw [rv_get z l i q hq, List.getElem?_reverse hq]
    split
    · have : l.length - 1 - q < l.length := by omega
      simp [List.getD, this]
    · have : l.length - 1 - q = q := by omega
      rw [this]
      simp [List.getD, hq]
  · rw [List.getElem?_eq_none (by rw [rv_len]; exact hq), List.getElem?_eq_none (by simpa using hq)]
theorem rv_step {α : Type} (z : α) (l : List α) (i : Nat) (h : 2 * i + 1 < l.length) : ((rv z l i).set i (l.getD (l.length - 1 - i) z)).set (l.length - 1 - i) (l.getD i z) = rv z l (i + 1) := by
  apply List.ext_getElem?
  intro q
  rcases Nat.lt_or_ge q l.length with hq | hq
  · rw [rv_get z l (i + 1) q hq, List.getElem?_set, List.getElem?_set]
    simp only [List.length_set, rv_len]
    by_cases h1 : l.length - 1 - i = q
    · rw [if_pos h1, if_pos (by omega), if_pos (by omega)]
      congr 2
      omega
    · rw [if_neg h1]
      by_cases h2 : i = q
      · rw [if_pos h2, if_pos (by omega), if_pos (by omega)]
        congr 2
        omega
      · rw [if_neg h2, rv_get z l i q hq]
        by_cases h3 : q < i ∨ l.length - i ≤ q
        · rw [if_pos h3, if_pos (by omega)]
        · rw [if_neg h3, if_neg (by omega)]
  · rw [List.getElem?_eq_none (by simp [rv_len]; exact hq), List.getElem?_eq_none (by rw [rv_len]; exact hq)]
/-- the hashes beside a way, from the top down -/
def pathDown : List WayStep → List Hsh → List Hsh
  | [], _ => []
  | t :: ts, l => if t.1 = true then treeH (l.drop t.2.1) :: pathDown ts (l.take t.2.1) else treeH (l.take t.2.1) :: pathDown ts (l.drop t.2.1)
def pathH (l : List Hsh) (i : Int) : List Hsh := (pathDown (wayOf l.length i) l).reverse
/-- what a way's hashes make of a leaf's -/
def upH : List WayStep → Hsh → List Hsh → Hsh
  | [], h, _ => h
  | t :: ts, h, p => if t.1 = true then nodeH (upH ts h p.dropLast) (p.getLastD zeroH) else nodeH (p.getLastD zeroH) (upH ts h p.dropLast)
def foldH (n i : Int) (h : Hsh) (p : List Hsh) : Option Hsh := if i < 0 ∨ n ≤ i ∨ 2000 < n ∨ (wayOf n i).length ≠ p.length then none else some (topH n (upH (wayOf n i) h p))
theorem pathDown_len : ∀ (ts : List WayStep) (l : List Hsh), (pathDown ts l).length = ts.length
  | [], _ => rfl
  | t :: ts, l => by
    unfold pathDown
    split <;> simp [pathDown_len ts]
theorem turns_len : ∀ (f n i : Nat), n ≤ f → (turns n i).length ≤ n
  | 0, n, i, h => by
    obtain rfl : n = 0 := by omega
    simp [turns, turnsF]
  | f + 1, n, i, h => by
    by_cases hn : 1 < n
    · rw [turns_step n i hn, List.length_cons]
      split
      · have := turns_len f ((n + 1) / 2) i (by omega)
        omega
      · have := turns_len f (n - (n + 1) / 2) (i - (n + 1) / 2) (by omega)
        omega
    · obtain rfl | rfl : n = 0 ∨ n = 1 := by omega
      · simp [turns, turnsF]
      · simp [turns_one]
theorem pathH_len (l : List Hsh) (i : Int) : (pathH l i).length = (wayOf l.length i).length := by simp [pathH, pathDown_len]
theorem way_len (n : Nat) (i : Int) : (wayOf n i).length ≤ n := by
  unfold wayOf
  split
  · simp
  · exact turns_len n _ _ (by simp)
theorem way_eq {n i : Nat} (h : i < n) (hn : n ≤ 2000) : wayOf (n : Int) (i : Int) = turns n i := by
  unfold wayOf
  rw [if_neg (by omega)]
  simp
theorem getLastD_append {α : Type} (l : List α) (x z : α) : (l ++ [x]).getLastD z = x := by simp [List.getLastD_eq_getLast?]
theorem upH_snoc (t : WayStep) (ts : List WayStep) (h x : Hsh) (p : List Hsh) : upH (t :: ts) h (p ++ [x]) = if t.1 = true then nodeH (upH ts h p) x else nodeH x (upH ts h p) := by
  rw [upH, List.dropLast_concat, getLastD_append]
theorem way_row {n i : Nat} (_h : i < n) (hn : 1 < n) : turns n i = (decide (i < (n + 1) / 2), (n + 1) / 2, n - (n + 1) / 2) :: turns (if i < (n + 1) / 2 then (n + 1) / 2 else n - (n + 1) / 2) (if i < (n + 1) / 2 then i else i - (n + 1) / 2) := by
  rw [turns_step n i hn]
  split <;> rfl
/-- a leaf's way leads to the root -/
theorem up_path : ∀ (n : Nat) (l : List Hsh) (i : Nat) (x : Hsh), l.length = n → l[i]? = some x → upH (turns n i) x (pathDown (turns n i) l).reverse = treeH l := by
  intro n
  induction n using Nat.strongRecOn with
  | _ n ih =>
    intro l i x hl hx
    have hi : i < n := by rw [← hl]; exact (List.getElem?_eq_some_iff.1 hx).1
    by_cases h1 : 1 < n
    · have hst := treeH_step l (by omega)
      rw [hl] at hst
      rw [turns_step n i h1, hst]
      unfold pathDown
      generalize hk : (n + 1) / 2 = k at *
      by_cases hik : i < k
      · have ih := ih k (by omega) (l.take k) i x (by simp; omega) (by rw [List.getElem?_take_of_lt hik]; exact hx)
        simp only [hik, decide_true, if_true, List.reverse_cons]
        rw [upH_snoc, if_pos rfl, ih]
      · have ih := ih (n - k) (by omega) (l.drop k) (i - k) x (by simp; omega) (by rw [List.getElem?_drop, show k + (i - k) = i by omega]; exact hx)
        simp only [hik, decide_false, if_false, List.reverse_cons, Bool.false_eq_true]
        rw [upH_snoc, if_neg (by simp), ih]
    · have h2 : l.length = 1 := by omega
      obtain ⟨y, rfl⟩ := List.length_eq_one_iff.1 h2
      obtain rfl : n = 1 := by simpa using hl.symm
      obtain rfl : i = 0 := by omega
      obtain rfl : y = x := by simpa using hx
      simp [turns_one, upH, treeH, treeF]
theorem reverse_spec {g c n : Nat} {l : List Hsh} (hn : n = l.length) (h1 : n ≤ 1000000) : Av.Spec Tryz.prog GL 141 [.lit (.slice (some ⟨g, 0, none⟩) n c)] [.buf g 33 32 (l.map hA) c] fun v m' => v = .tup [] ∧ m' = [.buf g 33 32 (l.reverse.map hA) c] := by
  subst hn
  refine spec_enter Tryz.func141 rfl Tryz.ntmps141 rfl (fun _ hs => ?_)
  repeat' (first | refine W ?_ | refine ob2 (fun _ => ?_) | intro _)
  have h0 : l = rv zeroH l 0 := (rv_zero zeroH l).symm
  refine ac_loop (α := Nat) (fun i => [(0, .lit (.slice (some ⟨g, 0, none⟩) l.length c)), (2, int i), (3, int ((l.length : Int) - 1 - i))]) (fun i => [.buf g 33 32 ((rv zeroH l i).map hA) c]) (fun i => 2 * i ≤ l.length) (fun i => l.length - 2 * i) 0 ⟨rfl, rfl, by simp; rfl, trivial⟩ (by rw [← h0]; exact List.Sublist.refl _) (Nat.zero_le _) ?_
  intro i hi
  repeat' (first | refine W ?_ | refine ob2 (fun _ => ?_) | intro _)
  refine ac_cond (fun hlt => ?_) (fun hlt => ?_)
  · have hlr := rv_len zeroH l i
    have hst := rv_step zeroH l i (by omega)
    have hga := rv_get zeroH l i i (by omega)
    have hgb := rv_get zeroH l i (l.length - 1 - i) (by omega)
    rw [if_neg (by omega)] at hga hgb
    repeat' (first | refine W ?_ | refine ob2 (fun _ => ?_) | intro _)
    apply obl_read []; exact rfl; exact rfl; kernel_rfl; intro _ _
    refine al_idxB (l.length - 1 - i) ?_
    exact al_nil (ae_got rfl rfl)
    apply obl_read [0]; exact rfl; exact rfl; kernel_rfl; intro _ _
    refine al_loadB (j := l.length - 1 - i) (off := 0) (xs := (rv zeroH l i).map hA) (y := hA (l.getD (l.length - 1 - i) zeroH)) (u := hA (l.getD (l.length - 1 - i) zeroH)) (by rw [List.getElem?_map, hgb]; rfl) ?_
    exact al_nil (ae_got rfl rfl)
    repeat' (first | refine W ?_ | refine ob2 (fun _ => ?_) | intro _)
    apply obl_read []; exact rfl; exact rfl; kernel_rfl; intro _ _
    refine al_idxB i ?_
    exact al_nil (ae_got rfl rfl)
    apply obl_read [0]; exact rfl; exact rfl; kernel_rfl; intro _ _
    refine al_loadB (j := i) (off := 0) (xs := (rv zeroH l i).map hA) (y := hA (l.getD i zeroH)) (u := hA (l.getD i zeroH)) (by rw [List.getElem?_map, hga]; rfl) ?_
    exact al_nil (ae_got rfl rfl)
    repeat' (first | refine W ?_ | refine ob2 (fun _ => ?_) | intro _)
    apply obl_read []; exact rfl; exact rfl; kernel_rfl; intro _ _
    refine al_idxB i ?_
    exact al_nil (ae_got rfl rfl)
    apply obl_writeN [0]; exact rfl; exact rfl; kernel_rfl
    · intro _ _
      refine al_storeB (j := i) (off := 0) (xs := (rv zeroH l i).map hA) (y := hA (l.getD i zeroH)) (y' := hA (l.getD (l.length - 1 - i) zeroH)) (by rw [List.getElem?_map, hga]; rfl) ?_
      exact al_nil (ae_gotN rfl)
    · exact rfl
    · exact rfl
    apply obl_read []; exact rfl; exact rfl; kernel_rfl; intro _ _
    refine al_idxB (l.length - 1 - i) ?_
    exact al_nil (ae_got rfl rfl)
    apply obl_writeN [0]; exact rfl; exact rfl; kernel_rfl
    · intro _ _
      refine al_storeB (j := l.length - 1 - i) (off := 0) (xs := ((rv zeroH l i).map hA).set i (hA (l.getD (l.length - 1 - i) zeroH))) (y := hA (l.getD (l.length - 1 - i) zeroH)) (y' := hA (l.getD i zeroH)) (by rw [List.getElem?_set_ne (by omega), List.getElem?_map, hgb]; rfl) ?_
      exact al_nil (ae_gotN rfl)
    · exact rfl
    · exact rfl
    repeat' (first | refine W ?_ | refine ob2 (fun _ => ?_) | intro _)
    have e : (((rv zeroH l i).map hA).set i (hA (l.getD (l.length - 1 - i) zeroH))).set (l.length - 1 - i) (hA (l.getD i zeroH)) = (rv zeroH l (i + 1)).map hA := by rw [← hst, List.map_set, List.map_set]
    rw [show (l.length : Int) - 1 - (i : Int) - 1 = (l.length : Int) - 1 - ((i + 1 : Nat) : Int) by omega]
    refine ae_round (i + 1) ⟨rfl, rfl, rfl, trivial⟩ ?_ (by omega) (by omega)
    rw [← e]
    exact List.Sublist.refl _
  · repeat' (first | refine W ?_ | refine ob2 (fun _ => ?_) | intro _)
    rw [rv_end zeroH l i (by omega) hi]
    exact reN _ ⟨rfl, rfl⟩ (List.Sublist.refl _)
theorem reverse_nil : SpecE Tryz.prog GL 141 [nils] (.tup []) := by
  refine spec_enter Tryz.func141 rfl Tryz.ntmps141 rfl (fun _ hs => ?_)
  repeat' (first | refine W ?_ | refine ob2 (fun _ => ?_) | intro _)
  refine ac_loop (α := Unit) (fun _ => [(2, int 0), (3, int (-1))]) (fun _ => []) (fun _ => True) (fun _ => 0) () ⟨rfl, rfl, trivial⟩ (List.Sublist.refl _) trivial ?_
  intro _ _
  repeat' (first | refine W ?_ | refine ob2 (fun _ => ?_) | intro _)
  exact reN [] ⟨rfl, rfl⟩ (List.Sublist.refl _)
instance fnPath {d : List Ent} {i : Int} {xs : List AV} {id : Option Value} [hx : Ents xs d] : Ans Tryz.prog GL 119 [.agg 1 [.sl 2 xs id], int i] (d.length ≤ 1000000) (.sl 32 ((pathH (d.map leafH) i).map hA) none) := ⟨fun hl => by
  have h := hx.out
  subst h
  have hm : (d.map leafH).length = d.length := List.length_map _
  have hmA : ((d.map leafH).map hA).length = d.length := by simp
  refine spec_enter Tryz.func119 rfl Tryz.ntmps119 rfl (fun _ hs => ?_)
  repeat' (first | refine W ?_ | refine ob2 (fun _ => ?_) | intro _)
  generalize hL : d.map leafH = L at *
  rw [hmA]
  have hwl : (wayOf (d.length : Int) i).length ≤ 2000 := by
    unfold wayOf
    split
    · simp
    · exact Nat.le_trans (turns_len _ _ _ (Nat.le_refl _)) (by omega)
  have hin : (∃ i', i' < L.length ∧ wayOf (d.length : Int) i = turns L.length i') ∨ wayOf (d.length : Int) i = [] := by
    unfold wayOf
    by_cases hc : i < 0 ∨ (d.length : Int) ≤ i ∨ 2000 < (d.length : Int)
    · exact .inr (by rw [if_pos hc])
    · refine .inl ⟨i.toNat, by omega, by rw [if_neg hc, hm]; simp⟩
  have hpH : pathH L i = (pathDown (wayOf (d.length : Int) i) L).reverse := by rw [pathH, hm]
  rw [hpH]
  generalize wayOf (d.length : Int) i = ts at *
  have hmt : (ts.map trA).length = ts.length := List.length_map _
  rename_i g2
  refine ac_loop (α := Nat × List Hsh × List Hsh × Option (Nat × Nat)) (fun q => [(2, ptr g2), (5, match q.2.2.2 with | none => nils | some (g, c) => .lit (.slice (some ⟨g, 0, none⟩) q.1 c)), (6, .sl 32 (q.2.1.map hA) none), (14, .sl 3 (ts.map trA) none), (15, int (ts.map trA).length), (16, int q.1)])
    (fun q => match q.2.2.2 with | none => [] | some (g, c) => [.buf g 33 32 (q.2.2.1.map hA) c])
    (fun q => q.1 ≤ ts.length ∧ q.2.2.1.length = q.1 ∧ pathDown ts L = q.2.2.1 ++ pathDown (ts.drop q.1) q.2.1 ∧ q.2.1.length ≤ L.length ∧ ((∃ i', i' < q.2.1.length ∧ ts.drop q.1 = turns q.2.1.length i') ∨ ts.drop q.1 = []) ∧ (q.2.2.2 = none → q.2.2.1 = []) ∧ ∀ g c, q.2.2.2 = some (g, c) → q.2.2.1.length ≤ c) (fun q => ts.length - q.1) (0, L, [], none) ⟨rfl, rfl, rfl, rfl, rfl, rfl, trivial⟩ (by repeat (first | exact List.nil_sublist _ | exact List.Sublist.refl _ | apply List.Sublist.cons_cons | apply List.Sublist.cons)) ⟨Nat.zero_le _, rfl, rfl, Nat.le_refl _, hin, fun _ => rfl, fun _ _ h => by cases h⟩ ?_
  rintro ⟨j, l, done, own⟩ ⟨g1, g2', g3, g4, g5, g6, g7⟩
  dsimp only at g1 g2' g3 g4 g5 g6 g7 ⊢
  repeat' (first | refine W ?_ | refine ob2 (fun _ => ?_) | intro _)
  refine ac_cond (fun hlt => ?_) (fun hlt => ?_)
  · have hlt' : j < ts.length := by omega
    rw [List.drop_eq_getElem_cons hlt'] at g3 g5
    obtain ⟨i', hi', hts⟩ := g5.resolve_right (List.cons_ne_nil _ _)
    have h1 : 1 < l.length := by
      rcases Nat.lt_or_ge 1 l.length with h | h
      · exact h
      · have : l.length = 1 := by omega
        rw [this, turns_one] at hts
        cases hts
    rw [way_row hi' h1] at hts
    injection hts with ht0 htr
    have hk1 : ts[j].2.1 = (l.length + 1) / 2 := by rw [ht0]
    have hb1 : ts[j].1 = decide (i' < (l.length + 1) / 2) := by rw [ht0]
    generalize hT : ts[j] = T at *
    obtain ⟨b, k, o⟩ := T
    dsimp only at hk1 hb1
    have hml : (l.map hA).length = l.length := List.length_map _
    repeat' (first | refine W ?_ | refine ob2 (fun _ => ?_) | intro _)
    refine al_idxM (l := ts) (f := trA) j hlt' ?_
    rw [hT]
    repeat' (first | refine W ?_ | refine ob2 (fun _ => ?_) | intro _)
    rename_i g8
    cases b
    focus
      have hge : ¬ i' < (l.length + 1) / 2 := by simpa using hb1
      rw [if_neg hge, if_neg hge] at htr
      have g3' : pathDown ts L = (done ++ [treeH (l.take k)]) ++ pathDown (ts.drop (j + 1)) (l.drop k) := by rw [g3, pathDown, if_neg (by simp)]; simp
      repeat' (first | refine W ?_ | refine ob2 (fun _ => ?_) | intro _)
      refine al_sliceD 0 k ?_
      rw [List.drop_zero]
      repeat' (first | refine W ?_ | refine ob2 (fun _ => ?_) | intro _)
      rcases own with _ | ⟨go, co⟩
      focus
        obtain rfl := g6 rfl
        obtain rfl : 0 = j := g2'
        refine al_appendN (fun g' c' hc => ?_)
        repeat' (first | refine W ?_ | refine ob2 (fun _ => ?_) | intro _)
        refine al_sliceD k l.length ?_
        rw [show ((l.map hA).take l.length).drop k = (l.drop k).map hA by rw [List.take_of_length_le (by simp), List.map_drop]]
        repeat' (first | refine W ?_ | refine ob2 (fun _ => ?_) | intro _)
        refine ae_round (0 + 1, l.drop k, [treeH (l.take k)], some (g', c')) ⟨rfl, rfl, rfl, rfl, rfl, rfl, trivial⟩ ?_ ⟨by dsimp only; omega, by simp, g3', by simp; omega, .inl ⟨i' - (l.length + 1) / 2, by simp; omega, by rw [htr]; congr 1; simp; omega⟩, (by intro h; cases h), (by intro g c h; cases h; simp at hc ⊢; omega)⟩ (by dsimp only; omega)
        repeat (first | exact List.nil_sublist _ | exact List.Sublist.refl _ | apply List.Sublist.cons_cons | apply List.Sublist.cons)
      focus
        have hdc := g7 go co rfl
        refine al_appendB (xs := done.map hA) (fun g' c' hc => ?_)
        repeat' (first | refine W ?_ | refine ob2 (fun _ => ?_) | intro _)
        refine al_sliceD k l.length ?_
        rw [show ((l.map hA).take l.length).drop k = (l.drop k).map hA by rw [List.take_of_length_le (by simp), List.map_drop]]
        repeat' (first | refine W ?_ | refine ob2 (fun _ => ?_) | intro _)
        refine ae_round (j + 1, l.drop k, done ++ [treeH (l.take k)], some (g', c')) ⟨rfl, rfl, rfl, rfl, rfl, rfl, trivial⟩ ?_ ⟨by dsimp only; omega, by simp [g2'], g3', by simp; omega, .inl ⟨i' - (l.length + 1) / 2, by simp; omega, by rw [htr]; congr 1; simp; omega⟩, (by intro h; cases h), (by intro g c h; cases h; simp at hc ⊢; omega)⟩ (by dsimp only; omega)
        rw [List.map_append]
        repeat (first | exact List.nil_sublist _ | exact List.Sublist.refl _ | apply List.Sublist.cons_cons | apply List.Sublist.cons)
    focus
      have hle : i' < (l.length + 1) / 2 := by simpa using hb1
      rw [if_pos hle, if_pos hle] at htr
      have g3' : pathDown ts L = (done ++ [treeH (l.drop k)]) ++ pathDown (ts.drop (j + 1)) (l.take k) := by rw [g3, pathDown, if_pos rfl]; simp
      have hfl : (l.map hA).take l.length = l.map hA := List.take_of_length_le (by omega)
      repeat' (first | refine W ?_ | refine ob2 (fun _ => ?_) | intro _)
      refine al_sliceD k l.length ?_
      rw [hfl]
      repeat' (first | refine W ?_ | refine ob2 (fun _ => ?_) | intro _)
      rcases own with _ | ⟨go, co⟩
      focus
        obtain rfl := g6 rfl
        obtain rfl : 0 = j := g2'
        refine al_appendN (fun g' c' hc => ?_)
        repeat' (first | refine W ?_ | refine ob2 (fun _ => ?_) | intro _)
        refine al_sliceD 0 k ?_
        rw [show ((l.map hA).take k).drop 0 = (l.take k).map hA by rw [List.drop_zero, List.map_take]]
        repeat' (first | refine W ?_ | refine ob2 (fun _ => ?_) | intro _)
        refine ae_round (0 + 1, l.take k, [treeH (l.drop k)], some (g', c')) ⟨rfl, rfl, rfl, rfl, rfl, rfl, trivial⟩ ?_ ⟨by dsimp only; omega, by simp, g3', by simp; omega, .inl ⟨i', by simp; omega, by rw [htr]; congr 1; simp; omega⟩, (by intro h; cases h), (by intro g c h; cases h; simp at hc ⊢; omega)⟩ (by dsimp only; omega)
        repeat (first | exact List.nil_sublist _ | exact List.Sublist.refl _ | apply List.Sublist.cons_cons | apply List.Sublist.cons)
      focus
        have hdc := g7 go co rfl
        refine al_appendB (xs := done.map hA) (fun g' c' hc => ?_)
        repeat' (first | refine W ?_ | refine ob2 (fun _ => ?_) | intro _)
        refine al_sliceD 0 k ?_
        rw [show ((l.map hA).take k).drop 0 = (l.take k).map hA by rw [List.drop_zero, List.map_take]]
        repeat' (first | refine W ?_ | refine ob2 (fun _ => ?_) | intro _)
        refine ae_round (j + 1, l.take k, done ++ [treeH (l.drop k)], some (g', c')) ⟨rfl, rfl, rfl, rfl, rfl, rfl, trivial⟩ ?_ ⟨by dsimp only; omega, by simp [g2'], g3', by simp; omega, .inl ⟨i', by simp; omega, by rw [htr]; congr 1; simp; omega⟩, (by intro h; cases h), (by intro g c h; cases h; simp at hc ⊢; omega)⟩ (by dsimp only; omega)
        rw [List.map_append]
        repeat (first | exact List.nil_sublist _ | exact List.Sublist.refl _ | apply List.Sublist.cons_cons | apply List.Sublist.cons)
  · obtain rfl : j = ts.length := by omega
    rw [List.drop_length, pathDown, List.append_nil] at g3
    rw [g3]
    rcases own with _ | ⟨go, co⟩
    focus
      obtain rfl := g6 rfl
      repeat' (first | refine W ?_ | refine ob2 (fun _ => ?_) | intro _)
      refine al_callK (K := fun v m' => v = .tup [] ∧ m' = []) [] [] (by rw [hs]; exact reverse_nil) (fun v m' hh => ?_) (List.Perm.refl _)
      obtain ⟨rfl, rfl⟩ := hh
      refine al_as 5 (Imp.nilN (k := 32)) ?_
      repeat' (first | refine W ?_ | refine ob2 (fun _ => ?_) | intro _)
      refine reE ?_
      rfl
    focus
      have hdc := g7 go co rfl
      repeat' (first | refine W ?_ | refine ob2 (fun _ => ?_) | intro _)
      refine al_callK [.buf go 33 32 (done.map hA) co] [] (by rw [hs]; exact reverse_spec (n := ts.length) (l := done) g2'.symm (by omega)) (fun v m' hh => ?_) (by rw [List.append_nil])
      obtain ⟨rfl, rfl⟩ := hh
      rw [List.append_nil]
      refine al_freeze 5 ?_
      refine al_as 5 Imp.sl ?_
      repeat' (first | refine W ?_ | refine ob2 (fun _ => ?_) | intro _)
      refine reE ?_
      rfl⟩
end Go.Proofs.YtkijoddconipoaaGreatDoor

namespace Go.Proofs.YtkijoddconipoaaGreatDoor
open Go Go.RowKit Tw Av
theorem bad_fold {n i : Int} {h : Hsh} {p : List Hsh} (hb : i < 0 ∨ n ≤ i ∨ 2000 < n ∨ (wayOf n i).length ≠ p.length) : foldH n i h p = none := if_pos hb
theorem good_fold {n i : Int} {h : Hsh} {p : List Hsh} (hb : ¬ (i < 0 ∨ n ≤ i ∨ 2000 < n ∨ (wayOf n i).length ≠ p.length)) : foldH n i h p = some (topH n (upH (wayOf n i) h p)) := if_neg hb
instance fnFold {n i : Int} {h : Hsh} {p : List Hsh} {xs : List AV} {id : Option Value} [hx : Hshs xs p] : Ans Tryz.prog GL 129 [int n, int i, hA h, .sl 32 xs id] (n ≤ 9223372036854775807) (.tup [hA ((foldH n i h p).getD zeroH), boo (foldH n i h p).isSome]) := ⟨fun hn => by
  have hh := hx.out
  subst hh
  have hmp : (p.map hA).length = p.length := List.length_map _
  have hmt : ((wayOf n i).map trA).length = (wayOf n i).length := List.length_map _
  refine spec_enter Tryz.func129 rfl Tryz.ntmps129 rfl (fun _ hs => ?_)
  repeat' (first | refine W ?_ | refine ob2 (fun _ => ?_) | intro _)
  refine gu1 (fun h1 => ?_) (fun h1 => ?_)
  · repeat' (first | refine W ?_ | refine ob2 (fun _ => ?_) | intro _)
    refine reE ?_
    rw [bad_fold (.inl h1)]
    rfl
  · repeat' (first | refine W ?_ | refine ob2 (fun _ => ?_) | intro _)
    refine gu1 (fun h2 => ?_) (fun h2 => ?_)
    · repeat' (first | refine W ?_ | refine ob2 (fun _ => ?_) | intro _)
      refine reE ?_
      rw [bad_fold (.inr (.inl h2))]
      rfl
    · repeat' (first | refine W ?_ | refine ob2 (fun _ => ?_) | intro _)
      refine gu1 (fun h3 => ?_) (fun h3 => ?_)
      · repeat' (first | refine W ?_ | refine ob2 (fun _ => ?_) | intro _)
        refine reE ?_
        rw [bad_fold (.inr (.inr (.inl h3)))]
        rfl
      · repeat' (first | refine W ?_ | refine ob2 (fun _ => ?_) | intro _)
        refine ac_cond (fun h4 => ?_) (fun h4 => ?_)
        · repeat' (first | refine W ?_ | refine ob2 (fun _ => ?_) | intro _)
          refine reE ?_
          rw [bad_fold (.inr (.inr (.inr (by omega))))]
          rfl
        · have hgd := good_fold (h := h) (show ¬ (i < 0 ∨ n ≤ i ∨ 2000 < n ∨ (wayOf n i).length ≠ p.length) by omega)
          rw [hgd]
          have hm : (wayOf n i).length = p.length := by omega
          have hpl : p.length ≤ 2000 := by
            rw [← hm]
            unfold wayOf
            split
            · simp
            · exact Nat.le_trans (turns_len _ _ _ (Nat.le_refl _)) (by omega)
          generalize wayOf n i = ts at *
          repeat' (first | refine W ?_ | refine ob2 (fun _ => ?_) | intro _)
          rename_i g6 g8 g11
          refine ac_loop (α := Nat) (fun j => [(0, int n), (6, ptr g6), (8, ptr g8), (10, .sl 3 (ts.map trA) none), (11, ptr g11), (37, .sl 32 (p.map hA) id), (38, int (p.map hA).length), (39, int j)]) (fun j => [.var g11 33 (hA (upH (ts.drop (p.length - j)) h (p.take j))), .var g8 33 (hA zeroH)])
            (fun j => j ≤ p.length) (fun j => p.length - j) 0 ⟨rfl, rfl, rfl, rfl, rfl, rfl, rfl, rfl, trivial⟩ ?_ (Nat.zero_le _) ?_
          · rw [Nat.sub_zero, ← hm, List.drop_length, upH]
            repeat (first | exact List.nil_sublist _ | exact List.Sublist.refl _ | apply List.Sublist.cons_cons | apply List.Sublist.cons)
          intro j hj
          repeat' (first | refine W ?_ | refine ob2 (fun _ => ?_) | intro _)
          refine ac_cond (fun hlt => ?_) (fun hlt => ?_)
          · have hjp : j < p.length := by omega
            have hjt : p.length - 1 - j < ts.length := by omega
            have hst : upH (ts.drop (p.length - (j + 1))) h (p.take (j + 1)) = if ts[p.length - 1 - j].1 = true then nodeH (upH (ts.drop (p.length - j)) h (p.take j)) p[j] else nodeH p[j] (upH (ts.drop (p.length - j)) h (p.take j)) := by
              rw [show p.length - (j + 1) = p.length - 1 - j by omega, List.drop_eq_getElem_cons hjt, List.take_succ_eq_append_getElem hjp, upH_snoc, show p.length - 1 - j + 1 = p.length - j by omega]
            repeat' (first | refine W ?_ | refine ob2 (fun _ => ?_) | intro _)
            refine al_idxM (l := p) (f := hA) j hjp ?_
            repeat' (first | refine W ?_ | refine ob2 (fun _ => ?_) | intro _)
            refine al_idxM (l := ts) (f := trA) (p.length - 1 - j) hjt ?_
            repeat' (first | refine W ?_ | refine ob2 (fun _ => ?_) | intro _)
            refine ac_condB (fun hb => ?_) (fun hb => ?_)
            · rw [if_pos hb] at hst
              repeat' (first | refine W ?_ | refine ob2 (fun _ => ?_) | intro _)
              refine ae_round (j + 1) ⟨rfl, rfl, rfl, rfl, rfl, rfl, rfl, rfl, trivial⟩ ?_ hjp (by omega)
              rw [hst]
              repeat (first | exact List.nil_sublist _ | exact List.Sublist.refl _ | apply List.Sublist.cons_cons | apply List.Sublist.cons)
            · rw [if_neg (by rw [hb]; simp)] at hst
              repeat' (first | refine W ?_ | refine ob2 (fun _ => ?_) | intro _)
              refine ae_round (j + 1) ⟨rfl, rfl, rfl, rfl, rfl, rfl, rfl, rfl, trivial⟩ ?_ hjp (by omega)
              rw [hst]
              repeat (first | exact List.nil_sublist _ | exact List.Sublist.refl _ | apply List.Sublist.cons_cons | apply List.Sublist.cons)
          · obtain rfl : j = p.length := by omega
            rw [Nat.sub_self, List.drop_zero, List.take_length]
            repeat' (first | refine W ?_ | refine ob2 (fun _ => ?_) | intro _)
            refine reE ?_
            rfl⟩
end Go.Proofs.YtkijoddconipoaaGreatDoor

namespace Go.Proofs.YtkijoddconipoaaGreatDoor
open Go Go.RowKit Tw Av
theorem pathH_bad {l : List Hsh} {i : Int} (h : i < 0 ∨ (l.length : Int) ≤ i ∨ l.length < 2) : pathH l i = [] := by
  unfold pathH wayOf
  by_cases hc : i < 0 ∨ (l.length : Int) ≤ i ∨ 2000 < (l.length : Int)
  · rw [if_pos hc]
    rfl
  · rw [if_neg hc]
    have h1 : l.length = 1 := by omega
    rw [show (l.length : Int).toNat = 1 by omega, turns_one]
    rfl
theorem pathH_step {l : List Hsh} {i k : Nat} (h : i < l.length) (h1 : 1 < l.length) (h2 : l.length ≤ 2000) (hk : (l.length + 1) / 2 = k) : pathH l i = if i < k then pathH (l.take k) i ++ [treeH (l.drop k)] else pathH (l.drop k) ((i - k : Nat) : Int) ++ [treeH (l.take k)] := by
  have e1 : pathH l i = (pathDown (turns l.length i) l).reverse := by rw [pathH, way_eq h h2]
  rw [e1, way_row h h1, hk, pathDown]
  by_cases hik : i < k
  · have hl : (l.take k).length = k := by simp; omega
    have e2 : pathH (l.take k) i = (pathDown (turns k i) (l.take k)).reverse := by rw [pathH, hl, way_eq hik (by omega)]
    rw [if_pos hik, e2]
    simp [hik]
  · have hl : (l.drop k).length = l.length - k := by simp
    have e2 : pathH (l.drop k) ((i - k : Nat) : Int) = (pathDown (turns (l.length - k) (i - k)) (l.drop k)).reverse := by rw [pathH, hl, way_eq (by omega) (by omega)]
    rw [if_neg hik, e2]
    simp [hik]
theorem rpath_ans (N : Nat) : N ≤ 2000 → ∀ {d : List Ent} {i : Int} {xs : List AV} {id : Option Value} [Ents xs d], Ans Tryz.prog GL 72 [.sl 2 xs id, int i] (d.length ≤ N) (.sl 32 ((pathH (d.map leafH) i).map hA) none) := by
  induction N with
  | zero =>
    intro _ d i xs id hx
    refine ⟨fun hl => ?_⟩
    have h := hx.out
    subst h
    obtain rfl : d = [] := List.eq_nil_of_length_eq_zero (by omega)
    rw [pathH_bad (.inr (.inr (by simp)))]
    refine spec_enter Tryz.func72 rfl Tryz.ntmps72 rfl (fun _ hs => ?_)
    repeat' (first | refine W ?_ | refine ob2 (fun _ => ?_) | intro _)
    refine gu1 (fun h1 => ?_) (fun h1 => ?_)
    · repeat' (first | refine W ?_ | refine ob2 (fun _ => ?_) | intro _)
      refine ae_as 4 (Imp.nilN (k := 32)) ?_
      refine reE ?_
      rfl
    · repeat' (first | refine W ?_ | refine ob2 (fun _ => ?_) | intro _)
      refine gu1 (fun h2 => ?_) (fun h2 => ?_)
      · repeat' (first | refine W ?_ | refine ob2 (fun _ => ?_) | intro _)
        refine ae_as 4 (Imp.nilN (k := 32)) ?_
        refine reE ?_
        rfl
      · exfalso
        simp at h2
        omega
  | succ N ih =>
    intro hN d i xs id hx
    have ih := @ih (by omega)
    refine ⟨fun hl => ?_⟩
    have h := hx.out
    subst h
    have hm : (d.map entA).length = d.length := List.length_map _
    have hml : (d.map leafH).length = d.length := List.length_map _
    refine spec_enter Tryz.func72 rfl Tryz.ntmps72 rfl (fun _ hs => ?_)
    repeat' (first | refine W ?_ | refine ob2 (fun _ => ?_) | intro _)
    refine gu1 (fun h1 => ?_) (fun h1 => ?_)
    · repeat' (first | refine W ?_ | refine ob2 (fun _ => ?_) | intro _)
      refine ae_as 4 (Imp.nilN (k := 32)) ?_
      refine reE ?_
      rw [pathH_bad (.inl h1)]
      rfl
    · repeat' (first | refine W ?_ | refine ob2 (fun _ => ?_) | intro _)
      refine gu1 (fun h2 => ?_) (fun h2 => ?_)
      · repeat' (first | refine W ?_ | refine ob2 (fun _ => ?_) | intro _)
        refine ae_as 4 (Imp.nilN (k := 32)) ?_
        refine reE ?_
        rw [pathH_bad (.inr (.inl (by omega)))]
        rfl
      · repeat' (first | refine W ?_ | refine ob2 (fun _ => ?_) | intro _)
        refine ac_cond (fun h3 => ?_) (fun h3 => ?_)
        · repeat' (first | refine W ?_ | refine ob2 (fun _ => ?_) | intro _)
          refine ae_as 4 (Imp.nilN (k := 32)) ?_
          refine reE ?_
          rw [pathH_bad (.inr (.inr (by omega)))]
          rfl
        · obtain ⟨I, rfl⟩ : ∃ I : Nat, i = I := ⟨i.toNat, by omega⟩
          have hst := pathH_step (l := d.map leafH) (i := I) (by omega) (by omega) (by omega) rfl
          rw [hml] at hst
          rw [hst]
          have hk0 : (((d.map entA).length : Int) + 1) / 2 = (((d.length + 1) / 2 : Nat) : Int) := by omega
          repeat' (first | refine W ?_ | refine ob2 (fun _ => ?_) | intro _)
          rw [hk0]
          generalize hk : (d.length + 1) / 2 = k at *
          have hwl : ∀ (l : List Hsh) (i : Int), (pathH l i).length ≤ l.length := fun l i => by rw [pathH_len]; exact way_len _ _
          have hw1 := hwl ((d.map leafH).take k) I
          have hw2 := hwl ((d.map leafH).drop k) ((I - k : Nat) : Int)
          rw [List.length_take] at hw1
          rw [List.length_drop] at hw2
          have hmt : (((d.map entA).take k).drop 0) = (d.take k).map entA := by rw [List.drop_zero, List.map_take]
          have hmd : (((d.map entA).take d.length).drop k) = (d.drop k).map entA := by rw [List.take_of_length_le (by omega), List.map_drop]
          refine ac_as 6 (Imp.nil (k := 32)) ?_
          refine ac_st (fun ok w h => h.full 33 32 none 0) ?_
          repeat' (first | refine W ?_ | refine ob2 (fun _ => ?_) | intro _)
          refine ac_cond (fun hlt => ?_) (fun hlt => ?_)
          · have hik : I < k := by omega
            rw [if_pos hik]
            repeat' (first | refine W ?_ | refine ob2 (fun _ => ?_) | intro _)
            refine al_sliceD 0 k ?_
            rw [hmt]
            refine al_move ?_
            refine al_callE (hp := by simp; omega) ?_
            rw [List.map_take]
            refine al_append (fun v => ?_)
            repeat' (first | refine W ?_ | refine ob2 (fun _ => ?_) | intro _)
            refine al_sliceD k d.length ?_
            rw [hmd]
            refine al_callE (hp := by simp; omega) ?_
            repeat' (first | refine W ?_ | refine ob2 (fun _ => ?_) | intro _)
            refine al_append (fun v' => ?_)
            repeat' (first | refine W ?_ | refine ob2 (fun _ => ?_) | intro _)
            refine ae_as 4 Imp.sl ?_
            refine reE ?_
            simp [outOf]
          · have hik : ¬ I < k := by omega
            rw [if_neg hik]
            repeat' (first | refine W ?_ | refine ob2 (fun _ => ?_) | intro _)
            refine al_sliceD k d.length ?_
            rw [hmd]
            repeat' (first | refine W ?_ | refine ob2 (fun _ => ?_) | intro _)
            rw [show (I : Int) - (k : Int) = ((I - k : Nat) : Int) by omega, List.map_drop]
            refine al_append (fun v => ?_)
            repeat' (first | refine W ?_ | refine ob2 (fun _ => ?_) | intro _)
            refine al_sliceD 0 k ?_
            rw [hmt]
            refine al_callE (hp := by simp; omega) ?_
            repeat' (first | refine W ?_ | refine ob2 (fun _ => ?_) | intro _)
            refine al_append (fun v' => ?_)
            repeat' (first | refine W ?_ | refine ob2 (fun _ => ?_) | intro _)
            refine ae_as 4 Imp.sl ?_
            refine reE ?_
            simp [outOf]
end Go.Proofs.YtkijoddconipoaaGreatDoor

namespace Go.Proofs.YtkijoddconipoaaGreatDoor
open Go Go.RowKit Tw Av
theorem take_eq_step {α : Type} {a b : List α} {i : Nat} (h : a.take i = b.take i) (ha : i < a.length) (hb : i < b.length) (he : a[i] = b[i]) : a.take (i + 1) = b.take (i + 1) := by
  rw [List.take_succ_eq_append_getElem ha, List.take_succ_eq_append_getElem hb, h, he]
instance fnHSame {a b : List Hsh} {xs ys : List AV} {id id2 : Option Value} [hx : Hshs xs a] [hy : Hshs ys b] : Ans Tryz.prog GL 76 [.sl 32 xs id, .sl 32 ys id2] (b.length ≤ 1073741823) (boo (decide (a = b))) := ⟨fun hbl => by
  have h1 := hx.out
  have h2 := hy.out
  subst h1 h2
  have hma : (a.map hA).length = a.length := List.length_map _
  have hmb : (b.map hA).length = b.length := List.length_map _
  refine spec_enter Tryz.func76 rfl Tryz.ntmps76 rfl (fun _ hs => ?_)
  repeat' (first | refine W ?_ | refine ob2 (fun _ => ?_) | intro _)
  refine ac_cond (fun hl => ?_) (fun hl => ?_)
  · repeat' (first | refine W ?_ | refine ob2 (fun _ => ?_) | intro _)
    refine reE ?_
    have : a ≠ b := fun e => by subst e; omega
    simp [outOf, this]
  · repeat' (first | refine W ?_ | refine ob2 (fun _ => ?_) | intro _)
    have hle : a.length = b.length := by omega
    refine ac_loop (α := Nat) (fun i => [(0, .sl 32 (a.map hA) id), (1, .sl 32 (b.map hA) id2), (5, int i)]) (fun _ => []) (fun i => i ≤ a.length ∧ a.take i = b.take i) (fun i => a.length - i) 0 ⟨rfl, rfl, rfl, trivial⟩ (List.Sublist.refl _) ⟨Nat.zero_le _, rfl⟩ ?_
    rintro i ⟨g1, g2⟩
    repeat' (first | refine W ?_ | refine ob2 (fun _ => ?_) | intro _)
    refine ac_cond (fun hlt => ?_) (fun hlt => ?_)
    · have ha : i < a.length := by omega
      have hb : i < b.length := by omega
      repeat' (first | refine W ?_ | refine ob2 (fun _ => ?_) | intro _)
      apply obl_read []; exact rfl; exact rfl; kernel_rfl; intro _ _
      refine al_idxM (l := a) (f := hA) i ha ?_
      exact al_nil (ae_got rfl rfl)
      repeat' (first | refine W ?_ | refine ob2 (fun _ => ?_) | intro _)
      apply obl_read []; exact rfl; exact rfl; kernel_rfl; intro _ _
      refine al_idxM (l := b) (f := hA) i hb ?_
      exact al_nil (ae_got rfl rfl)
      repeat' (first | refine W ?_ | refine opE ?_ | refine obE ?_ | refine ob2 (fun _ => ?_) | intro _)
      refine ac_condB (fun hc => ?_) (fun hc => ?_)
      · repeat' (first | refine W ?_ | refine ob2 (fun _ => ?_) | intro _)
        refine reE ?_
        have hne : a[i] ≠ b[i] := by simpa using hc
        have : a ≠ b := fun e => by subst e; exact hne rfl
        simp [outOf, this]
      · repeat' (first | refine W ?_ | refine ob2 (fun _ => ?_) | intro _)
        exact ae_round (i + 1) ⟨rfl, rfl, rfl, trivial⟩ (List.Sublist.refl _) ⟨ha, take_eq_step g2 ha hb (by simpa using hc)⟩ (by omega)
    · repeat' (first | refine W ?_ | refine ob2 (fun _ => ?_) | intro _)
      refine reE ?_
      rw [List.take_of_length_le (by omega), List.take_of_length_le (by omega)] at g2
      simp [outOf, g2]⟩
end Go.Proofs.YtkijoddconipoaaGreatDoor
