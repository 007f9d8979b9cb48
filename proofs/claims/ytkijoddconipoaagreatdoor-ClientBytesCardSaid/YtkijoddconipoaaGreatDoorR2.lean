/- Clients: states, new ones, put, update. -/
import Derived.Test.YtkijoddconipoaaGreatDoorP1
import Derived.Test.YtkijoddconipoaaGreatDoorP2
import Derived.Test.YtkijoddconipoaaGreatDoorP3
import Derived.Test.YtkijoddconipoaaGreatDoorP4
import Derived.Test.YtkijoddconipoaaGreatDoorP5
import Derived.Test.YtkijoddconipoaaGreatDoorQ1
import Derived.Test.YtkijoddconipoaaGreatDoorQ2
import Derived.Test.YtkijoddconipoaaGreatDoorK1
import Derived.Test.YtkijoddconipoaaGreatDoorQ3
import Derived.Test.YtkijoddconipoaaGreatDoorQ5
import Derived.Test.YtkijoddconipoaaGreatDoorQ13
import Derived.Test.YtkijoddconipoaaGreatDoorQ14
import Derived.Test.YtkijoddconipoaaGreatDoorR1
namespace Go.Proofs.YtkijoddconipoaaGreatDoor
open Go Go.RowKit Tw Av
theorem cloneS_spec {xs : List AV} {id : Option Value} (hx : xs.length ≤ 1073741824) : Av.Spec Tryz.prog GL 124 [.sl 34 xs id] [] (OwnK 76 34 xs) := by
  refine spec_enter Tryz.func124 rfl Tryz.ntmps124 rfl (fun _ hs => ?_)
  repeat' (first | refine W ?_ | refine ob2 (fun _ => ?_) | intro _)
  refine al_slN (fun q c hq hc => ?_)
  repeat' (first | refine W ?_ | refine ob2 (fun _ => ?_) | intro _)
  injection hc with hc
  subst hc
  refine ac_condB (fun h => ?_) (fun h => ?_)
  · repeat' (first | refine W ?_ | refine ob2 (fun _ => ?_) | intro _)
    exact reK [] (.inl ⟨hq h, rfl, rfl⟩) (List.nil_sublist _)
  · repeat' (first | refine W ?_ | refine ob2 (fun _ => ?_) | intro _)
    refine al_build0B (fun g => ?_)
    repeat' (first | refine W ?_ | refine ob2 (fun _ => ?_) | intro _)
    refine al_appendB (fun g' c' hc' => ?_)
    repeat' (first | refine W ?_ | refine ob2 (fun _ => ?_) | intro _)
    refine reK [.buf g' 76 34 ([] ++ xs) c'] (.inr ⟨g', c', ?_, rfl, ?_⟩) (List.Sublist.refl _)
    · simp [outOf]
    · simpa using hc'
theorem insL2 {α : Type} {xs : List α} {i : Nat} {x : α} {p q : Nat} (h : i ≤ xs.length) (hp : p = xs.length - i) (hq : 1 ≤ q) : over (over xs (i + 1) ((xs.drop i).take p)) i ([x].take q) = xs.take i ++ x :: xs.drop i := insL' h hp hq
theorem insZ2 {α : Type} {xs : List α} {i q : Nat} {x z : α} {p r : Nat} (h : i ≤ xs.length) (hq : i + q = xs.length + 1) (hp : p = q - 1) (hr : 1 ≤ r) : over (over (xs.take i ++ List.replicate q z) i ([x].take r)) (i + 1) ((xs.drop i).take p) = xs.take i ++ x :: xs.drop i := insZ' h hq hp hr
theorem insertS_nil {x : AV} {idv : Option Value} : Av.Spec Tryz.prog GL 123 [nils, int 0, .sl 34 [x] idv] [] (OwnK 76 34 [x]) := by
  refine spec_enter Tryz.func123 rfl Tryz.ntmps123 rfl (fun _ hs => ?_)
  repeat' (first | refine W ?_ | refine ob2 (fun _ => ?_) | intro _)
  refine al_sliceL 0 0 ?_
  repeat' (first | refine W ?_ | refine ob2 (fun _ => ?_) | intro _)
  refine al_appendN (fun g' c' hc' => ?_)
  repeat' (first | refine W ?_ | refine ob2 (fun _ => ?_) | intro _)
  exact reK [.buf g' 76 34 [x] c'] (.inr ⟨g', c', rfl, rfl, hc'⟩) (by simp)
theorem insertS_spec {g n c i : Nat} {xs : List AV} {x : AV} {idv : Option Value} (hn : xs.length = n) (hc : n ≤ c) (hi : i ≤ n) (hb : n ≤ 1073741824) : Av.Spec Tryz.prog GL 123 [.lit (.slice (some ⟨g, 0, none⟩) n c), int i, .sl 34 [x] idv] [.buf g 76 34 xs c] (OwnK 76 34 (xs.take i ++ x :: xs.drop i)) := by
  subst hn
  have hx1 : ([x] : List AV).length = 1 := rfl
  refine spec_enter Tryz.func123 rfl Tryz.ntmps123 rfl (fun _ hs => ?_)
  repeat' (first | refine W ?_ | refine ob2 (fun _ => ?_) | intro _)
  refine al_sliceL i xs.length ?_
  repeat' (first | refine W ?_ | refine ob2 (fun _ => ?_) | intro _)
  refine ac_cond (fun hin => ?_) (fun hin => ?_)
  · repeat' (first | refine W ?_ | refine ob2 (fun _ => ?_) | intro _)
    refine al_appendB (fun g' c' hc' => ?_)
    repeat' (first | refine W ?_ | refine ob2 (fun _ => ?_) | intro _)
    have hin' : i = xs.length := by omega
    subst hin'
    refine reK [.buf g' 76 34 (xs ++ [x]) c'] (.inr ⟨g', c', ?_, ?_, ?_⟩) (by simp)
    · simp [outOf]
    · simp
    · simpa using hc'
  · repeat' (first | refine W ?_ | refine ob2 (fun _ => ?_) | intro _)
    have hl : (xs.take i ++ x :: xs.drop i).length = xs.length + 1 := by simp; omega
    refine ac_cond (fun hcap => ?_) (fun hcap => ?_)
    · obtain ⟨q, hq⟩ : ∃ q, i + q = xs.length + 1 := ⟨xs.length + 1 - i, by omega⟩
      repeat' (first | refine W ?_ | refine ob2 (fun _ => ?_) | intro _)
      refine al_sliceP 0 i ?_
      repeat' (first | refine W ?_ | refine ob2 (fun _ => ?_) | intro _)
      refine al_appendZ (i := i) q (fun g' c' hc' => ?_)
      repeat' (first | refine W ?_ | refine ob2 (fun _ => ?_) | intro _)
      refine al_sliceP i (i + q) ?_
      repeat' (first | refine W ?_ | refine ob2 (fun _ => ?_) | intro _)
      refine al_copyD (j := i) ?_
      repeat' (first | refine W ?_ | refine ob2 (fun _ => ?_) | intro _)
      apply obl_read []; exact rfl; exact rfl; kernel_rfl; intro _ _
      refine al_sliceP (i + 1) (i + q) ?_
      exact al_nil (ae_got rfl rfl)
      repeat' (first | refine W ?_ | refine ob2 (fun _ => ?_) | intro _)
      apply obl_read []; exact rfl; exact rfl; kernel_rfl; intro _ _
      refine al_sliceP i xs.length ?_
      exact al_nil (ae_got rfl rfl)
      apply obl_write [0, 1]; exact rfl; exact rfl; kernel_rfl; intro _ _
      refine al_copyB (j := i + 1) (j2 := i) ?_
      exact al_nil (ae_got rfl rfl)
      exact rfl
      exact rfl
      repeat' (first | refine W ?_ | refine ob2 (fun _ => ?_) | intro _)
      rw [insZ2 (by omega) hq (by omega) (by omega)]
      refine reK [.buf g' 76 34 _ c'] (.inr ⟨g', c', ?_, rfl, ?_⟩) (List.singleton_sublist.2 List.mem_cons_self)
      · rw [hl, ← hq]
        rfl
      · omega
    · repeat' (first | refine W ?_ | refine ob2 (fun _ => ?_) | intro _)
      refine al_sliceP 0 (xs.length + 1) ?_
      repeat' (first | refine W ?_ | refine ob2 (fun _ => ?_) | intro _)
      refine al_sliceP (i + 1) (xs.length + 1) ?_
      apply al_ext (v := boo false) Tryz.func147; kernel_rfl; exact rfl; kernel_rfl; kernel_rfl; exact rfl; exact rfl; exact rfl
      · intro ok w cs hS hv
        exact ⟨_, overlaps_runD (b := 48) (tS := 26) 4 hS List.mem_cons_self hv, RVl rfl⟩
      repeat' (first | refine W ?_ | refine ob2 (fun _ => ?_) | intro _)
      apply obl_read []; exact rfl; exact rfl; kernel_rfl; intro _ _
      refine al_sliceP (i + 1) (xs.length + 1) ?_
      exact al_nil (ae_got rfl rfl)
      repeat' (first | refine W ?_ | refine ob2 (fun _ => ?_) | intro _)
      apply obl_read []; exact rfl; exact rfl; kernel_rfl; intro _ _
      refine al_sliceP i (xs.length + 1) ?_
      exact al_nil (ae_got rfl rfl)
      apply obl_write [0]; exact rfl; exact rfl; kernel_rfl; intro _ _
      refine al_copyB (j := i + 1) (j2 := i) ?_
      exact al_nil (ae_got rfl rfl)
      exact rfl
      exact rfl
      repeat' (first | refine W ?_ | refine ob2 (fun _ => ?_) | intro _)
      refine al_sliceP i (xs.length + 1) ?_
      repeat' (first | refine W ?_ | refine ob2 (fun _ => ?_) | intro _)
      refine al_copyD (j := i) ?_
      repeat' (first | refine W ?_ | refine ob2 (fun _ => ?_) | intro _)
      rw [insL2 (by omega) (by omega) (by omega)]
      refine reK [.buf g 76 34 _ c] (.inr ⟨g, c, ?_, rfl, ?_⟩) (by simp)
      · rw [hl]
        rfl
      · omega
end Go.Proofs.YtkijoddconipoaaGreatDoor

namespace Go.Proofs.YtkijoddconipoaaGreatDoor
open Go Go.RowKit Tw Av
theorem at1 {h t : Int} {r : Hsh} {g : Nat} {T : TypeId} {n : Int} : Av.Spec Tryz.prog GL 146 [.agg 34 [int h, int t, hA r], ptr g] [.var g T (int n)] fun u m => u = boo (decide (n ≤ h)) ∧ m = [.var g T (int n)] := by
  refine spec_enter Tryz.func146 rfl Tryz.ntmps146 rfl (fun _ hs => ?_)
  repeat' (first | refine W ?_ | refine op2 ?_ | refine ob4 ?_ | refine ob2 (fun _ => ?_) | intro _ | simp only [List.set])
  exact reK [.var g T (int n)] ⟨rfl, rfl⟩ (List.sublist_cons_self _ _)
theorem atI_step {l : List Sta} {h : Int} {i : Nat} (hi : i < l.length) (hb : ∀ j, (hj : j < i) → ¬ h ≤ (l[j]'(by omega)).h) (hh : h ≤ l[i].h) : atI l h = i := by
  unfold atI
  rw [List.findIdx_eq hi]
  exact ⟨by simpa using hh, fun j hj => by simpa using hb j hj⟩
theorem atI_none {l : List Sta} {h : Int} (hb : ∀ j, (hj : j < l.length) → ¬ h ≤ l[j].h) : atI l h = l.length := by
  unfold atI
  rw [List.findIdx_eq_length]
  intro x hx
  obtain ⟨j, hj, rfl⟩ := List.getElem_of_mem hx
  simpa using hb j hj
theorem index_spec {l : List Sta} {xs : List AV} {id : Option Value} [hx : Stas xs l] {g : Nat} {T : TypeId} {n : Int} : Av.Spec Tryz.prog GL 145 [.sl 34 xs id, fnv 146 [.pointer (some ⟨g, 0, none⟩)]] [.var g T (int n)] fun u m => u = int (if atI l n < l.length then (atI l n : Int) else -1) ∧ m = [.var g T (int n)] := by
  have h := hx.out
  subst h
  have hm : (l.map staA).length = l.length := List.length_map _
  refine spec_enter Tryz.func145 rfl Tryz.ntmps145 rfl (fun _ hs => ?_)
  refine ac_bnd 0 (fun hb => ?_)
  have hb := maxLen_le hb
  repeat' (first | refine W ?_ | refine op2 ?_ | refine ob4 ?_ | refine ob2 (fun _ => ?_) | intro _ | simp only [List.set])
  refine ac_loop (α := Nat) (fun i => [(0, .sl 34 (l.map staA) id), (1, fnv 146 [.pointer (some ⟨g, 0, none⟩)]), (7, int (l.map staA).length), (8, int i)]) (fun i => [.var g T (int n)])
    (fun i => i ≤ l.length ∧ ∀ j, (hj : j < l.length) → j < i → ¬ n ≤ l[j].h) (fun i => l.length - i) 0 ⟨rfl, rfl, rfl, rfl, trivial⟩ (List.Sublist.refl _) ⟨Nat.zero_le _, fun _ _ h => absurd h (by omega)⟩ ?_
  rintro i ⟨hi, hall⟩
  repeat' (first | refine W ?_ | refine op2 ?_ | refine ob4 ?_ | refine ob2 (fun _ => ?_) | intro _ | simp only [List.set])
  refine ac_cond (fun hlt => ?_) (fun hlt => ?_)
  · have hil : i < l.length := by omega
    repeat' (first | refine W ?_ | refine op2 ?_ | refine ob4 ?_ | refine ob2 (fun _ => ?_) | intro _ | simp only [List.set])
    refine al_callV (args := [staA l[i]]) (cs := [.pointer (some ⟨g, 0, none⟩)]) [.var g T (int n)] _ (by rw [hs]; exact at1) (fun u m1 hh => ?_) (List.Perm.refl _)
    obtain ⟨rfl, rfl⟩ := hh
    repeat' (first | refine W ?_ | refine op2 ?_ | refine ob4 ?_ | refine ob2 (fun _ => ?_) | intro _ | simp only [List.set])
    refine ac_cond (fun hh => ?_) (fun hh => ?_)
    · repeat' (first | refine W ?_ | refine op2 ?_ | refine ob4 ?_ | refine ob2 (fun _ => ?_) | intro _ | simp only [List.set])
      refine reK [.var g T (int n)] ⟨?_, rfl⟩ (List.Sublist.refl _)
      rw [atI_step hil (fun j hj => hall j (by omega) hj) hh, if_pos hil]
      rfl
    · repeat' (first | refine W ?_ | refine op2 ?_ | refine ob4 ?_ | refine ob2 (fun _ => ?_) | intro _ | simp only [List.set])
      refine ae_round (i + 1) ⟨rfl, rfl, rfl, rfl, trivial⟩ (List.Sublist.refl _) ⟨hil, fun j hj h => ?_⟩ (by omega)
      rcases Nat.lt_or_ge j i with h2 | h2
      · exact hall j hj h2
      · obtain rfl : j = i := by omega
        exact hh
  · obtain rfl : i = l.length := by omega
    repeat' (first | refine W ?_ | refine op2 ?_ | refine ob4 ?_ | refine ob2 (fun _ => ?_) | intro _ | simp only [List.set])
    refine reK [.var g T (int n)] ⟨?_, rfl⟩ (List.Sublist.refl _)
    rw [atI_none (fun j hj => hall j hj hj), if_neg (by omega)]
    rfl
theorem atIs_in {l : List Sta} {h : Int} (hl : atI l h < l.length) : atIs l h = decide (l[atI l h].h = h) := by
  unfold atIs
  rw [List.getD, List.getElem?_eq_getElem hl]
  simp [hl]
theorem atIs_out {l : List Sta} {h : Int} (hl : ¬ atI l h < l.length) : atIs l h = false := by
  unfold atIs
  simp [hl]
instance fnCAt {c k : Bs} {p : Int} {f : Bool} {l : List Sta} {xs : List AV} {id : Option Value} {n : Int} [hx : Stas xs l] : Ans Tryz.prog GL 122 [.agg 5 [str c, str k, int p, boo f, .sl 34 xs id], int n] True (.tup [int (atI l n), boo (atIs l n)]) := ⟨fun _ => by
  have h := hx.out
  subst h
  have hm : (l.map staA).length = l.length := List.length_map _
  have hle := atI_le l n
  refine spec_enter Tryz.func122 rfl Tryz.ntmps122 rfl (fun _ hs => ?_)
  refine ac_bndA 0 4 (fun hb => ?_)
  have hb := maxLen_le hb
  repeat' (first | refine W ?_ | refine op2 ?_ | refine ob4 ?_ | refine ob2 (fun _ => ?_) | intro _ | simp only [List.set])
  rename_i g2 g3
  refine al_makeFunc (vs := [.pointer (some ⟨g3, 0, none⟩)]) ?_
  repeat' (first | refine W ?_ | refine op2 ?_ | refine ob4 ?_ | refine ob2 (fun _ => ?_) | intro _ | simp only [List.set])
  refine al_callK [.var g3 3 (int n)] _ (by rw [hs]; exact index_spec (l := l) (xs := l.map staA) (id := id)) (fun u m1 hh => ?_) (List.Perm.refl _)
  obtain ⟨rfl, rfl⟩ := hh
  by_cases hl : atI l n < l.length
  · rw [if_pos hl, atIs_in hl]
    repeat' (first | refine W ?_ | refine op2 ?_ | refine ob4 ?_ | refine ob2 (fun _ => ?_) | intro _ | simp only [List.set])
    refine reE ?_
    rfl
  · rw [if_neg hl, atIs_out hl]
    obtain hl : atI l n = l.length := by omega
    rw [hl]
    repeat' (first | refine W ?_ | refine op2 ?_ | refine ob4 ?_ | refine ob2 (fun _ => ?_) | intro _ | simp only [List.set])
    refine reE ?_
    rw [hm]
    rfl⟩
theorem findR_step {l : List Sta} {h : Int} {i : Nat} (hi : i < l.length) (hb : ∀ j, (hj : j < i) → ¬ (l[j]'(by omega)).h = h) (hh : l[i].h = h) : findR l h = some l[i] := by
  unfold findR
  rw [List.find?_eq_some_iff_getElem]
  exact ⟨by simpa using hh, i, hi, rfl, fun j hj => by simpa using hb j hj⟩
theorem findR_none {l : List Sta} {h : Int} (hb : ∀ j, (hj : j < l.length) → ¬ l[j].h = h) : findR l h = none := by
  unfold findR
  rw [List.find?_eq_none]
  intro x hx
  obtain ⟨j, hj, rfl⟩ := List.getElem_of_mem hx
  simpa using hb j hj
instance fnRFind {c k : Bs} {p : Int} {f : Bool} {l : List Sta} {xs : List AV} {id : Option Value} {n : Int} [hx : Stas xs l] : Ans Tryz.prog GL 42 [.agg 5 [str c, str k, int p, boo f, .sl 34 xs id], int n] True (.tup [staA ((findR l n).getD zeroS), boo (findR l n).isSome]) := ⟨fun _ => by
  have h := hx.out
  subst h
  have hm : (l.map staA).length = l.length := List.length_map _
  refine spec_enter Tryz.func42 rfl Tryz.ntmps42 rfl (fun _ hs => ?_)
  refine ac_bndA 0 4 (fun hb => ?_)
  have hb := maxLen_le hb
  repeat' (first | refine W ?_ | refine op2 ?_ | refine ob4 ?_ | refine ob2 (fun _ => ?_) | intro _ | simp only [List.set])
  rename_i g2 g4
  refine ac_loop (α := Nat) (fun i => [(1, int n), (2, ptr g2), (4, ptr g4), (6, int i)]) (fun i => [.var g4 76 (staA zeroS), .var g2 28 (.agg 5 [str c, str k, int p, boo f, .sl 34 (l.map staA) id])])
    (fun i => i ≤ l.length ∧ ∀ j, (hj : j < l.length) → j < i → ¬ l[j].h = n) (fun i => l.length - i) 0 ⟨rfl, rfl, rfl, rfl, trivial⟩ (List.Sublist.refl _) ⟨Nat.zero_le _, fun _ _ h => absurd h (by omega)⟩ ?_
  rintro i ⟨hi, hall⟩
  repeat' (first | refine W ?_ | refine op2 ?_ | refine ob4 ?_ | refine ob2 (fun _ => ?_) | intro _ | simp only [List.set])
  refine ac_cond (fun hlt => ?_) (fun hlt => ?_)
  · have hil : i < l.length := by omega
    repeat' (first | refine W ?_ | refine op2 ?_ | refine ob4 ?_ | refine ob2 (fun _ => ?_) | intro _ | simp only [List.set])
    refine ac_cond (fun hh => ?_) (fun hh => ?_)
    · repeat' (first | refine W ?_ | refine op2 ?_ | refine ob4 ?_ | refine ob2 (fun _ => ?_) | intro _ | simp only [List.set])
      refine reE ?_
      rw [findR_step hil (fun j hj => hall j (by omega) hj) hh]
      rfl
    · repeat' (first | refine W ?_ | refine op2 ?_ | refine ob4 ?_ | refine ob2 (fun _ => ?_) | intro _ | simp only [List.set])
      refine ae_round (i + 1) ⟨rfl, rfl, rfl, rfl, trivial⟩ (List.Sublist.refl _) ⟨hil, fun j hj h => ?_⟩ (by omega)
      rcases Nat.lt_or_ge j i with h2 | h2
      · exact hall j hj h2
      · obtain rfl : j = i := by omega
        exact hh
  · obtain rfl : i = l.length := by omega
    repeat' (first | refine W ?_ | refine op2 ?_ | refine ob4 ?_ | refine ob2 (fun _ => ?_) | intro _ | simp only [List.set])
    refine reE ?_
    rw [findR_none (fun j hj => hall j hj hj)]
    rfl⟩
theorem eq_of_all {α : Type} {a b : List α} (hl : a.length = b.length) (h : ∀ j, (h1 : j < a.length) → (h2 : j < b.length) → a[j] = b[j]) : a = b := List.ext_getElem hl fun j h1 h2 => h j h1 h2
instance fnEqual {a b : List Sta} {xs ys : List AV} {id id2 : Option Value} [hx : Stas xs a] [hy : Stas ys b] : Ans Tryz.prog GL 67 [.sl 34 xs id, .sl 34 ys id2] True (boo (decide (a = b))) := ⟨fun _ => by
  have h := hx.out
  subst h
  have h := hy.out
  subst h
  have hma : (a.map staA).length = a.length := List.length_map _
  have hmb : (b.map staA).length = b.length := List.length_map _
  refine spec_enter Tryz.func67 rfl Tryz.ntmps67 rfl (fun _ hs => ?_)
  refine ac_bnd 0 (fun hb => ?_)
  have hb := maxLen_le hb
  repeat' (first | refine W ?_ | refine op2 ?_ | refine ob4 ?_ | refine ob2 (fun _ => ?_) | intro _ | simp only [List.set])
  refine ac_cond (fun h1 => ?_) (fun h1 => ?_)
  · repeat' (first | refine W ?_ | refine op2 ?_ | refine ob4 ?_ | refine ob2 (fun _ => ?_) | intro _ | simp only [List.set])
    refine reE ?_
    have hne : ¬ a = b := fun h => by subst h; omega
    simp [outOf, hne]
  · have hl : a.length = b.length := by omega
    repeat' (first | refine W ?_ | refine op2 ?_ | refine ob4 ?_ | refine ob2 (fun _ => ?_) | intro _ | simp only [List.set])
    refine ac_loop (α := Nat) (fun i => [(0, .sl 34 (a.map staA) id), (1, .sl 34 (b.map staA) id2), (12, int (a.map staA).length), (13, int i)]) (fun i => [])
      (fun i => i ≤ a.length ∧ ∀ j, (h1 : j < a.length) → (h2 : j < b.length) → j < i → a[j] = b[j]) (fun i => a.length - i) 0 ⟨rfl, rfl, rfl, rfl, trivial⟩ (List.Sublist.refl _) ⟨Nat.zero_le _, fun _ _ _ h => absurd h (by omega)⟩ ?_
    rintro i ⟨hi, hall⟩
    repeat' (first | refine W ?_ | refine op2 ?_ | refine ob4 ?_ | refine ob2 (fun _ => ?_) | intro _ | simp only [List.set])
    refine ac_cond (fun hlt => ?_) (fun hlt => ?_)
    · have hia : i < a.length := by omega
      have hib : i < b.length := by omega
      repeat' (first | refine W ?_ | refine op2 ?_ | refine ob4 ?_ | refine ob2 (fun _ => ?_) | intro _ | simp only [List.set])
      refine ac_condB (fun hh => ?_) (fun hh => ?_)
      · repeat' (first | refine W ?_ | refine op2 ?_ | refine ob4 ?_ | refine ob2 (fun _ => ?_) | intro _ | simp only [List.set])
        refine reE ?_
        have hne : ¬ a = b := fun h => by subst h; simp at hh
        simp [outOf, hne]
      · repeat' (first | refine W ?_ | refine op2 ?_ | refine ob4 ?_ | refine ob2 (fun _ => ?_) | intro _ | simp only [List.set])
        refine ae_round (i + 1) ⟨rfl, rfl, rfl, rfl, trivial⟩ (List.Sublist.refl _) ⟨hia, fun j h1 h2 h => ?_⟩ (by omega)
        rcases Nat.lt_or_ge j i with h3 | h3
        · exact hall j h1 h2 h3
        · obtain rfl : j = i := by omega
          simp at hh
          obtain ⟨e1, e2, e3⟩ := hh
          cases ha : a[j]
          cases hb : b[j]
          rw [ha, hb] at e1 e2 e3
          simp_all
    · obtain rfl : i = a.length := by omega
      repeat' (first | refine W ?_ | refine op2 ?_ | refine ob4 ?_ | refine ob2 (fun _ => ?_) | intro _ | simp only [List.set])
      refine reE ?_
      have : a = b := eq_of_all hl fun j h1 h2 => hall j h1 h2 h1
      simp [outOf, this]⟩
end Go.Proofs.YtkijoddconipoaaGreatDoor

namespace Go.Proofs.YtkijoddconipoaaGreatDoor
open Go Go.RowKit Tw Av
theorem all_range {n : Nat} {p : Nat → Bool} : (List.range n).all p = true ↔ ∀ j, j < n → p j = true := by simp
theorem may_bad {x : Cli} (h : ¬ (x.k.length ≤ 64 ∧ 1 ≤ x.p ∧ x.p ≤ 1099511627776 ∧ 1 ≤ x.l.length ∧ x.l.length ≤ 32)) : mayC x = false := by
  unfold mayC
  simp only [h, decide_false, Bool.false_and]
theorem may_at {x : Cli} {i : Nat} (hi : i < x.l.length) (h : mayAt x.c x.l i = false) : mayC x = false := by
  unfold mayC
  rw [Bool.and_eq_false_iff]
  refine .inr (Bool.eq_false_iff.2 fun hh => ?_)
  have := all_range.1 hh i hi
  rw [h] at this
  cases this
theorem may_ok {x : Cli} (h : x.k.length ≤ 64 ∧ 1 ≤ x.p ∧ x.p ≤ 1099511627776 ∧ 1 ≤ x.l.length ∧ x.l.length ≤ 32) (ha : ∀ j, j < x.l.length → mayAt x.c x.l j = true) : mayC x = true := by
  unfold mayC
  simp only [h, decide_true, Bool.true_and, all_range.2 ha, and_self]
theorem mayAt_eq {c : Bs} {l : List Sta} {i : Nat} (hi : i < l.length) : mayAt c l i = (chkH ⟨c, l[i].h, l[i].t, l[i].r⟩ && (decide (i = 0) || fol (l.getD (i - 1) zeroS) l[i])) := by
  have hg : l.getD i zeroS = l[i] := by simp [List.getD, hi]
  unfold mayAt
  rw [hg]
  rfl
set_option maxHeartbeats 1000000 in
instance fnMay {c k : Bs} {p : Int} {f : Bool} {l : List Sta} {xs : List AV} {id : Option Value} [hx : Stas xs l] : Ans Tryz.prog GL 52 [.agg 5 [str c, str k, int p, boo f, .sl 34 xs id]] True (boo (mayC ⟨c, k, p, f, l⟩)) := ⟨fun _ => by
  have h := hx.out
  subst h
  have hm : (l.map staA).length = l.length := List.length_map _
  refine spec_enter Tryz.func52 rfl Tryz.ntmps52 rfl (fun _ hs => ?_)
  refine ac_bndA 0 4 (fun hb => ?_)
  have hb := maxLen_le hb
  by_cases hok : k.length ≤ 64 ∧ 1 ≤ p ∧ p ≤ 1099511627776 ∧ 1 ≤ l.length ∧ l.length ≤ 32
  · obtain ⟨h1, h2, h3, h4, h5⟩ := hok
    repeat' (first | refine W ?_ | refine op2 ?_ | refine ob4 ?_ | refine ob2 (fun _ => ?_) | intro _ | simp only [List.set] | refine gdT ?_ | refine gdF ?_ | refine cdT ?_ | refine cdF ?_ | fail)
    rename_i g1
    refine ac_loop (α := Nat) (fun i => [(1, ptr g1), (3, boo true), (33, .sl 34 (l.map staA) id), (34, int (l.map staA).length), (35, int i)]) (fun i => [.var g1 28 (.agg 5 [str c, str k, int p, boo f, .sl 34 (l.map staA) id])])
      (fun i => i ≤ l.length ∧ ∀ j, j < i → mayAt c l j = true) (fun i => l.length - i) 0 ⟨rfl, rfl, rfl, rfl, rfl, trivial⟩ (List.Sublist.refl _) ⟨Nat.zero_le _, fun _ h => absurd h (by omega)⟩ ?_
    rintro i ⟨hi, hall⟩
    repeat' (first | refine W ?_ | refine op2 ?_ | refine ob4 ?_ | refine ob2 (fun _ => ?_) | intro _ | simp only [List.set])
    refine ac_cond (fun hlt => ?_) (fun hlt => ?_)
    · have hil : i < l.length := by omega
      have hat := mayAt_eq (c := c) hil
      repeat' (first | refine W ?_ | refine op2 ?_ | refine ob4 ?_ | refine ob2 (fun _ => ?_) | intro _ | simp only [List.set])
      cases hc : chkH ⟨c, l[i].h, l[i].t, l[i].r⟩
      · rw [hc, Bool.false_and] at hat
        repeat' (first | refine W ?_ | refine op2 ?_ | refine ob4 ?_ | refine ob2 (fun _ => ?_) | intro _ | simp only [List.set])
        refine reE ?_
        rw [may_at (x := ⟨c, k, p, f, l⟩) hil hat]
        rfl
      rw [hc, Bool.true_and] at hat
      rcases i with _ | i
      · have h0 : ∀ j, j < 1 → mayAt c l j = true := fun j hj => by
          obtain rfl : j = 0 := by omega
          rw [hat]
          rfl
        repeat' (first | refine W ?_ | refine op2 ?_ | refine ob4 ?_ | refine ob2 (fun _ => ?_) | intro _ | simp only [List.set])
        refine ae_round 1 ⟨rfl, rfl, rfl, rfl, rfl, trivial⟩ ?_ ⟨hil, h0⟩ (by omega)
        repeat (first | exact List.nil_sublist _ | exact List.Sublist.refl _ | apply List.Sublist.cons_cons | apply List.Sublist.cons)
      · have hil2 : i < l.length := by omega
        have hg2 : l.getD (i + 1 - 1) zeroS = l[i] := by simp [List.getD, hil2]
        rw [hg2, decide_eq_false (by omega), Bool.false_or] at hat
        repeat' (first | refine W ?_ | refine op2 ?_ | refine ob4 ?_ | refine ob2 (fun _ => ?_) | intro _ | simp only [List.set])
        rw [decide_eq_false (show ¬ (((i + 1 : Nat) : Int) = 0) by omega)]
        repeat' (first | refine W ?_ | refine op2 ?_ | refine ob4 ?_ | refine ob2 (fun _ => ?_) | intro _ | simp only [List.set])
        rw [show (((i + 1 : Nat) : Int) - 1) = (i : Int) by omega]
        cases hf : fol l[i] l[i + 1]
        · rw [hf] at hat
          repeat' (first | refine W ?_ | refine op2 ?_ | refine ob4 ?_ | refine ob2 (fun _ => ?_) | intro _ | simp only [List.set])
          rw [hf]
          repeat' (first | refine W ?_ | refine op2 ?_ | refine ob4 ?_ | refine ob2 (fun _ => ?_) | intro _ | simp only [List.set])
          refine reE ?_
          rw [may_at (x := ⟨c, k, p, f, l⟩) hil hat]
          rfl
        · rw [hf] at hat
          repeat' (first | refine W ?_ | refine op2 ?_ | refine ob4 ?_ | refine ob2 (fun _ => ?_) | intro _ | simp only [List.set])
          rw [hf]
          repeat' (first | refine W ?_ | refine op2 ?_ | refine ob4 ?_ | refine ob2 (fun _ => ?_) | intro _ | simp only [List.set])
          refine ae_round (i + 2) ⟨rfl, rfl, rfl, rfl, rfl, trivial⟩ ?_ ⟨hil, fun j hj => ?_⟩ (by omega)
          · repeat (first | exact List.nil_sublist _ | exact List.Sublist.refl _ | apply List.Sublist.cons_cons | apply List.Sublist.cons)
          rcases Nat.lt_or_ge j (i + 1) with h6 | h6
          · exact hall j h6
          · obtain rfl : j = i + 1 := by omega
            exact hat
    · obtain rfl : i = l.length := by omega
      repeat' (first | refine W ?_ | refine op2 ?_ | refine ob4 ?_ | refine ob2 (fun _ => ?_) | intro _ | simp only [List.set])
      refine reE ?_
      rw [may_ok ⟨h1, h2, h3, h4, h5⟩ hall]
      rfl
  · rw [may_bad hok]
    repeat' (first | refine W ?_ | refine op2 ?_ | refine ob4 ?_ | refine ob2 (fun _ => ?_) | intro _ | simp only [List.set])
    refine gu1 (fun h => ?_) (fun h6 => ?_)
    · repeat' (first | refine W ?_ | refine op2 ?_ | refine ob4 ?_ | refine ob2 (fun _ => ?_) | intro _ | simp only [List.set])
      refine reE ?_
      rfl
    repeat' (first | refine W ?_ | refine op2 ?_ | refine ob4 ?_ | refine ob2 (fun _ => ?_) | intro _ | simp only [List.set])
    refine gu1 (fun h => ?_) (fun h7 => ?_)
    · repeat' (first | refine W ?_ | refine op2 ?_ | refine ob4 ?_ | refine ob2 (fun _ => ?_) | intro _ | simp only [List.set])
      refine reE ?_
      rfl
    repeat' (first | refine W ?_ | refine op2 ?_ | refine ob4 ?_ | refine ob2 (fun _ => ?_) | intro _ | simp only [List.set])
    refine gu1 (fun h => ?_) (fun h8 => ?_)
    · repeat' (first | refine W ?_ | refine op2 ?_ | refine ob4 ?_ | refine ob2 (fun _ => ?_) | intro _ | simp only [List.set])
      refine reE ?_
      rfl
    repeat' (first | refine W ?_ | refine op2 ?_ | refine ob4 ?_ | refine ob2 (fun _ => ?_) | intro _ | simp only [List.set])
    refine gu1 (fun h => ?_) (fun h9 => ?_)
    · repeat' (first | refine W ?_ | refine op2 ?_ | refine ob4 ?_ | refine ob2 (fun _ => ?_) | intro _ | simp only [List.set])
      refine reE ?_
      rfl
    repeat' (first | refine W ?_ | refine op2 ?_ | refine ob4 ?_ | refine ob2 (fun _ => ?_) | intro _ | simp only [List.set])
    refine cdT ?_
    repeat' (first | refine W ?_ | refine op2 ?_ | refine ob4 ?_ | refine ob2 (fun _ => ?_) | intro _ | simp only [List.set])
    refine reE ?_
    rfl⟩
end Go.Proofs.YtkijoddconipoaaGreatDoor

namespace Go.Proofs.YtkijoddconipoaaGreatDoor
open Go Go.RowKit Tw Av
theorem sta_eq {a : Sta} {h t : Int} {r : Hsh} : (decide (a.h = h) && (decide (a.t = t) && (decide (a.r = r) && true))) = decide (a = ⟨h, t, r⟩) := by
  rw [Bool.eq_iff_iff]
  simp only [Bool.and_eq_true, decide_eq_true_eq, and_true]
  constructor
  · rintro ⟨h1, h2, h3⟩
    cases a
    simp_all
  · rintro rfl
    exact ⟨rfl, rfl, rfl⟩
theorem imp_zeroC {n : Int} : Imp (.tup [.agg 5 [str [], str [], int 0, boo false, nils], int n]) (.tup [cliA zeroC, int n]) := (ImpR.imp : Imp _ (.tup [.agg 5 [str [], str [], int 0, boo false, .sl 34 [] none], int n]))
theorem imp_cli {c k : Bs} {p : Int} {f : Bool} {l : List Sta} {id : Option Value} {n : Int} : Imp (.tup [.agg 5 [str c, str k, int p, boo f, .sl 34 (l.map staA) id], int n]) (.tup [cliA ⟨c, k, p, f, l⟩, int n]) := (ImpR.imp : Imp _ (.tup [.agg 5 [str c, str k, int p, boo f, .sl 34 (l.map staA) none], int n]))
theorem imp_cli1 {c k : Bs} {p : Int} {f : Bool} {l : List Sta} {id : Option Value} : Imp (.agg 5 [str c, str k, int p, boo f, .sl 34 (l.map staA) id]) (cliA ⟨c, k, p, f, l⟩) := (ImpR.imp : Imp _ (.agg 5 [str c, str k, int p, boo f, .sl 34 (l.map staA) none]))
set_option maxHeartbeats 1000000 in
instance fnRMay {c k : Bs} {p : Int} {f : Bool} {l : List Sta} {xs : List AV} {id : Option Value} [hx : Stas xs l] : Ans Tryz.prog GL 39 [.agg 5 [str c, str k, int p, boo f, .sl 34 xs id]] True (boo (mayC ⟨c, k, p, f, l⟩)) := ⟨fun _ => by
  have h := hx.out
  subst h
  have hm : (l.map staA).length = l.length := List.length_map _
  refine spec_enter Tryz.func39 rfl Tryz.ntmps39 rfl (fun _ hs => ?_)
  refine ac_bndA 0 4 (fun hb => ?_)
  have hb := maxLen_le hb
  by_cases hok : (1 ≤ c.length ∧ c.length ≤ 32) ∧ k.length ≤ 64 ∧ 1 ≤ p ∧ p ≤ 1099511627776 ∧ 1 ≤ l.length ∧ l.length ≤ 32
  · obtain ⟨⟨h0, h00⟩, h1, h2, h3, h4, h5⟩ := hok
    repeat' (first | refine W ?_ | refine op2 ?_ | refine ob4 ?_ | refine ob2 (fun _ => ?_) | intro _ | simp only [List.set] | refine gdT ?_ | refine gdF ?_ | refine cdT ?_ | refine cdF ?_ | fail)
    rename_i g1
    refine ac_loop (α := Nat) (fun i => [(1, ptr g1), (3, int i)]) (fun i => [.var g1 28 (.agg 5 [str c, str k, int p, boo f, .sl 34 (l.map staA) id])])
      (fun i => i ≤ l.length ∧ ∀ j, j < i → mayAt c l j = true) (fun i => l.length - i) 0 ⟨rfl, rfl, trivial⟩ (List.Sublist.refl _) ⟨Nat.zero_le _, fun _ h => absurd h (by omega)⟩ ?_
    rintro i ⟨hi, hall⟩
    repeat' (first | refine W ?_ | refine op2 ?_ | refine ob4 ?_ | refine ob2 (fun _ => ?_) | intro _ | simp only [List.set])
    refine ac_cond (fun hlt => ?_) (fun hlt => ?_)
    · have hil : i < l.length := by omega
      have hat := mayAt_eq (c := c) hil
      repeat' (first | refine W ?_ | refine op2 ?_ | refine ob4 ?_ | refine ob2 (fun _ => ?_) | intro _ | simp only [List.set])
      cases hc : chkH ⟨c, l[i].h, l[i].t, l[i].r⟩
      · rw [hc, Bool.false_and] at hat
        repeat' (first | refine W ?_ | refine op2 ?_ | refine ob4 ?_ | refine ob2 (fun _ => ?_) | intro _ | simp only [List.set])
        refine reE ?_
        rw [may_at (x := ⟨c, k, p, f, l⟩) hil hat]
        rfl
      rw [hc, Bool.true_and] at hat
      rcases i with _ | i
      · have h0 : ∀ j, j < 1 → mayAt c l j = true := fun j hj => by
          obtain rfl : j = 0 := by omega
          rw [hat]
          rfl
        repeat' (first | refine W ?_ | refine op2 ?_ | refine ob4 ?_ | refine ob2 (fun _ => ?_) | intro _ | simp only [List.set])
        refine ae_round 1 ⟨rfl, rfl, trivial⟩ ?_ ⟨hil, h0⟩ (by omega)
        repeat (first | exact List.nil_sublist _ | exact List.Sublist.refl _ | apply List.Sublist.cons_cons | apply List.Sublist.cons)
      · have hil2 : i < l.length := by omega
        have hg2 : l.getD (i + 1 - 1) zeroS = l[i] := by simp [List.getD, hil2]
        rw [hg2, decide_eq_false (by omega), Bool.false_or] at hat
        repeat' (first | refine W ?_ | refine op2 ?_ | refine ob4 ?_ | refine ob2 (fun _ => ?_) | intro _ | simp only [List.set])
        rw [decide_eq_true (show (0 : Int) < ((i + 1 : Nat) : Int) by omega)]
        repeat' (first | refine W ?_ | refine op2 ?_ | refine ob4 ?_ | refine ob2 (fun _ => ?_) | intro _ | simp only [List.set])
        rw [show (((i + 1 : Nat) : Int) - 1) = (i : Int) by omega]
        repeat' (first | refine W ?_ | refine op2 ?_ | refine ob4 ?_ | refine ob2 (fun _ => ?_) | intro _ | simp only [List.set])
        by_cases hq : l[i + 1].h ≤ l[i].h
        · have hf : fol l[i] l[i + 1] = false := by simp [fol]; omega
          rw [decide_eq_true hq]
          repeat' (first | refine W ?_ | refine op2 ?_ | refine ob4 ?_ | refine ob2 (fun _ => ?_) | intro _ | simp only [List.set])
          refine reE ?_
          rw [may_at (x := ⟨c, k, p, f, l⟩) hil (hat.trans hf)]
          rfl
        · rw [decide_eq_false hq]
          repeat' (first | refine W ?_ | refine op2 ?_ | refine ob4 ?_ | refine ob2 (fun _ => ?_) | intro _ | simp only [List.set])
          rw [show (((i + 1 : Nat) : Int) - 1) = (i : Int) by omega]
          repeat' (first | refine W ?_ | refine op2 ?_ | refine ob4 ?_ | refine ob2 (fun _ => ?_) | intro _ | simp only [List.set])
          refine ac_cond (fun hh => ?_) (fun hh => ?_)
          · have hf : fol l[i] l[i + 1] = false := by simp [fol]; omega
            repeat' (first | refine W ?_ | refine op2 ?_ | refine ob4 ?_ | refine ob2 (fun _ => ?_) | intro _ | simp only [List.set])
            refine reE ?_
            rw [may_at (x := ⟨c, k, p, f, l⟩) hil (hat.trans hf)]
            rfl
          · have hf : fol l[i] l[i + 1] = true := by simp [fol]; omega
            repeat' (first | refine W ?_ | refine op2 ?_ | refine ob4 ?_ | refine ob2 (fun _ => ?_) | intro _ | simp only [List.set])
            refine ae_round (i + 2) ⟨rfl, rfl, trivial⟩ ?_ ⟨hil, fun j hj => ?_⟩ (by omega)
            · repeat (first | exact List.nil_sublist _ | exact List.Sublist.refl _ | apply List.Sublist.cons_cons | apply List.Sublist.cons)
            rcases Nat.lt_or_ge j (i + 1) with h6 | h6
            · exact hall j h6
            · obtain rfl : j = i + 1 := by omega
              exact hat.trans hf
    · obtain rfl : i = l.length := by omega
      repeat' (first | refine W ?_ | refine op2 ?_ | refine ob4 ?_ | refine ob2 (fun _ => ?_) | intro _ | simp only [List.set])
      refine reE ?_
      rw [may_ok ⟨h1, h2, h3, h4, h5⟩ hall]
      rfl
  · have hmay : mayC ⟨c, k, p, f, l⟩ = false := by
      by_cases h0 : k.length ≤ 64 ∧ 1 ≤ p ∧ p ≤ 1099511627776 ∧ 1 ≤ l.length ∧ l.length ≤ 32
      · refine may_at (x := ⟨c, k, p, f, l⟩) (i := 0) h0.2.2.2.1 ?_
        have hc : chkH ⟨c, (l[0]'h0.2.2.2.1).h, (l[0]'h0.2.2.2.1).t, (l[0]'h0.2.2.2.1).r⟩ = false := by
          unfold chkH
          rw [decide_eq_false_iff_not]
          rintro ⟨e1, e2, _⟩
          exact hok ⟨⟨e1, e2⟩, h0⟩
        rw [mayAt_eq h0.2.2.2.1, hc, Bool.false_and]
      · exact may_bad h0
    rw [hmay]
    repeat' (first | refine W ?_ | refine op2 ?_ | refine ob4 ?_ | refine ob2 (fun _ => ?_) | intro _ | simp only [List.set])
    refine gu1 (fun h => ?_) (fun h4 => ?_)
    · repeat' (first | refine W ?_ | refine op2 ?_ | refine ob4 ?_ | refine ob2 (fun _ => ?_) | intro _ | simp only [List.set])
      refine reE ?_
      rfl
    repeat' (first | refine W ?_ | refine op2 ?_ | refine ob4 ?_ | refine ob2 (fun _ => ?_) | intro _ | simp only [List.set])
    refine gu1 (fun h => ?_) (fun h5 => ?_)
    · repeat' (first | refine W ?_ | refine op2 ?_ | refine ob4 ?_ | refine ob2 (fun _ => ?_) | intro _ | simp only [List.set])
      refine reE ?_
      rfl
    repeat' (first | refine W ?_ | refine op2 ?_ | refine ob4 ?_ | refine ob2 (fun _ => ?_) | intro _ | simp only [List.set])
    refine gu1 (fun h => ?_) (fun h6 => ?_)
    · repeat' (first | refine W ?_ | refine op2 ?_ | refine ob4 ?_ | refine ob2 (fun _ => ?_) | intro _ | simp only [List.set])
      refine reE ?_
      rfl
    repeat' (first | refine W ?_ | refine op2 ?_ | refine ob4 ?_ | refine ob2 (fun _ => ?_) | intro _ | simp only [List.set])
    refine gu1 (fun h => ?_) (fun h7 => ?_)
    · repeat' (first | refine W ?_ | refine op2 ?_ | refine ob4 ?_ | refine ob2 (fun _ => ?_) | intro _ | simp only [List.set])
      refine reE ?_
      rfl
    repeat' (first | refine W ?_ | refine op2 ?_ | refine ob4 ?_ | refine ob2 (fun _ => ?_) | intro _ | simp only [List.set])
    refine gu1 (fun h => ?_) (fun h8 => ?_)
    · repeat' (first | refine W ?_ | refine op2 ?_ | refine ob4 ?_ | refine ob2 (fun _ => ?_) | intro _ | simp only [List.set])
      refine reE ?_
      rfl
    repeat' (first | refine W ?_ | refine op2 ?_ | refine ob4 ?_ | refine ob2 (fun _ => ?_) | intro _ | simp only [List.set])
    refine gu1 (fun h => ?_) (fun h9 => ?_)
    · repeat' (first | refine W ?_ | refine op2 ?_ | refine ob4 ?_ | refine ob2 (fun _ => ?_) | intro _ | simp only [List.set])
      refine reE ?_
      rfl
    repeat' (first | refine W ?_ | refine op2 ?_ | refine ob4 ?_ | refine ob2 (fun _ => ?_) | intro _ | simp only [List.set])
    refine cdT ?_
    repeat' (first | refine W ?_ | refine op2 ?_ | refine ob4 ?_ | refine ob2 (fun _ => ?_) | intro _ | simp only [List.set])
    refine reE ?_
    rfl⟩
instance fnNew {k c : Bs} {p h t : Int} {r : Hsh} : Ans Tryz.prog GL 37 [str k, int p, .agg 35 [str c, int h, int t, hA r]] True (.tup [cliA (newR k p ⟨c, h, t, r⟩), int (newE k p ⟨c, h, t, r⟩)]) := ⟨fun _ => by
  refine spec_enter Tryz.func37 rfl Tryz.ntmps37 rfl (fun _ hs => ?_)
  unfold newR newE
  cases hm : mayC (newC k p ⟨c, h, t, r⟩)
  all_goals
    repeat' (first | refine W ?_ | refine op2 ?_ | refine ob4 ?_ | refine ob2 (fun _ => ?_) | intro _ | simp only [List.set])
    rw [show mayC ⟨c, k, p, false, [⟨h, t, r⟩]⟩ = _ from hm]
    repeat' (first | refine W ?_ | refine op2 ?_ | refine ob4 ?_ | refine ob2 (fun _ => ?_) | intro _ | simp only [List.set])
    refine reI ?_
  · exact imp_zeroC
  · exact imp_cli (c := c) (k := k) (p := p) (f := false) (l := [⟨h, t, r⟩]) (id := none) (n := 0)⟩
instance fnRNew {k c : Bs} {p h t : Int} {r : Hsh} : Ans Tryz.prog GL 7 [str k, int p, .agg 35 [str c, int h, int t, hA r]] True (.tup [cliA (newR k p ⟨c, h, t, r⟩), int (newE k p ⟨c, h, t, r⟩)]) := ⟨fun _ => by
  refine spec_enter Tryz.func7 rfl Tryz.ntmps7 rfl (fun _ hs => ?_)
  unfold newR newE
  cases hm : mayC (newC k p ⟨c, h, t, r⟩)
  all_goals
    repeat' (first | refine W ?_ | refine op2 ?_ | refine ob4 ?_ | refine ob2 (fun _ => ?_) | intro _ | simp only [List.set])
    rw [show mayC ⟨c, k, p, false, [⟨h, t, r⟩]⟩ = _ from hm]
    repeat' (first | refine W ?_ | refine op2 ?_ | refine ob4 ?_ | refine ob2 (fun _ => ?_) | intro _ | simp only [List.set])
    refine reI ?_
  · exact imp_zeroC
  · exact imp_cli (c := c) (k := k) (p := p) (f := false) (l := [⟨h, t, r⟩]) (id := none) (n := 0)⟩
end Go.Proofs.YtkijoddconipoaaGreatDoor

namespace Go.Proofs.YtkijoddconipoaaGreatDoor
open Go Go.RowKit Tw Av
theorem put_same {x : Cli} {s : Sta} (h : atIs x.l s.h = true) (he : x.l.getD (atI x.l s.h) zeroS = s) : putC x s = x := by
  unfold putC
  rw [if_pos ⟨h, he⟩]
theorem put_frz1 {x : Cli} {s : Sta} (h : atIs x.l s.h = true) (he : x.l.getD (atI x.l s.h) zeroS ≠ s) : putC x s = frz x := by
  unfold putC
  rw [if_neg (fun hh => he hh.2), if_pos (.inl h)]
theorem put_frz2 {x : Cli} {s : Sta} (h : atIs x.l s.h = false) (hb : badAt x.l s (atI x.l s.h) = true) : putC x s = frz x := by
  unfold putC
  rw [if_neg (by rw [h]; simp), if_pos (.inr hb)]
theorem put_ins {x : Cli} {s : Sta} (h : atIs x.l s.h = false) (hb : badAt x.l s (atI x.l s.h) = false) : putC x s = { x with l := insS x.l s } := by
  unfold putC
  rw [if_neg (by rw [h]; simp), if_neg (by rw [h, hb]; simp)]
theorem bad_0 {l : List Sta} {s : Sta} : badAt l s 0 = (decide (0 < l.length) && !fol s (l.getD 0 zeroS)) := by simp [badAt]
theorem bad_s {l : List Sta} {s : Sta} {i : Nat} (hi : i < l.length) : badAt l s (i + 1) = (!fol l[i] s || (decide (i + 1 < l.length) && !fol s (l.getD (i + 1) zeroS))) := by
  have : l.getD (i + 1 - 1) zeroS = l[i] := by simp [List.getD, hi]
  unfold badAt
  rw [this]
  simp
set_option maxHeartbeats 2000000 in
instance fnCPut {c k : Bs} {p h t : Int} {f : Bool} {r : Hsh} {l : List Sta} {xs : List AV} {id : Option Value} [hx : Stas xs l] : Ans Tryz.prog GL 90 [.agg 5 [str c, str k, int p, boo f, .sl 34 xs id], .agg 34 [int h, int t, hA r]] (l.length ≤ 1000000) (cliA (putC ⟨c, k, p, f, l⟩ ⟨h, t, r⟩)) := ⟨fun hlen => by
  have hxo := hx.out
  subst hxo
  have hm : (l.map staA).length = l.length := List.length_map _
  have hle := atI_le l h
  refine spec_enter Tryz.func90 rfl Tryz.ntmps90 rfl (fun _ hs => ?_)
  repeat' (first | refine ct1 ?_ | refine op1 ?_ | refine opL ?_ | refine op2 ?_ | intro _)
  cases his : atIs l h
  · refine dr1 hs ?_
    repeat' (first | refine ct1 ?_ | refine op1 ?_ | refine opL ?_ | refine op2 ?_ | refine ob1 ?_ | refine ob4 ?_ | refine ob2 (fun _ => ?_) | intro _)
    rename_i g2 g3 g4
    refine ac_mid (α := Unit) (fun _ => [(2, ptr g2), (3, ptr g3), (4, ptr g4), (5, int (atI l h)), (26, boo (badAt l ⟨h, t, r⟩ (atI l h)))]) (fun _ => [.var g4 28 (.agg 5 [str [], str [], int 0, boo false, nils]), .var g3 76 (staA ⟨h, t, r⟩), .var g2 28 (.agg 5 [str c, str k, int p, boo f, .sl 34 (l.map staA) id])]) ?_ (fun _ => ?_)
    · generalize atI l h = i at *
      rcases i with _ | i
      · rw [bad_0]
        repeat' (first | refine W ?_ | refine op2 ?_ | refine ob4 ?_ | refine ob2 (fun _ => ?_) | intro _ | simp only [List.set])
        by_cases hlt : 0 < l.length
        · have hg : l.getD 0 zeroS = l[0] := by simp [List.getD, hlt]
          rw [decide_eq_true (show ((0 : Nat) : Int) < ((l.map staA).length : Int) by omega)]
          repeat' (first | refine W ?_ | refine op2 ?_ | refine ob4 ?_ | refine ob2 (fun _ => ?_) | intro _ | simp only [List.set])
          exact ae_cut () ⟨rfl, rfl, rfl, rfl, by rw [decide_eq_true hlt, hg]; rfl, trivial⟩ (List.Sublist.refl _)
        · rw [decide_eq_false (show ¬ ((0 : Nat) : Int) < ((l.map staA).length : Int) by omega)]
          repeat' (first | refine W ?_ | refine op2 ?_ | refine ob4 ?_ | refine ob2 (fun _ => ?_) | intro _ | simp only [List.set])
          exact ae_cut () ⟨rfl, rfl, rfl, rfl, by rw [decide_eq_false hlt]; rfl, trivial⟩ (List.Sublist.refl _)
      · have hil : i < l.length := by omega
        rw [bad_s hil]
        repeat' (first | refine W ?_ | refine op2 ?_ | refine ob4 ?_ | refine ob2 (fun _ => ?_) | intro _ | simp only [List.set])
        rw [decide_eq_true (show (0 : Int) < ((i + 1 : Nat) : Int) by omega)]
        repeat' (first | refine W ?_ | refine op2 ?_ | refine ob4 ?_ | refine ob2 (fun _ => ?_) | intro _ | simp only [List.set])
        rw [show (((i + 1 : Nat) : Int) - 1) = (i : Int) by omega]
        repeat' (first | refine W ?_ | refine op2 ?_ | refine ob4 ?_ | refine ob2 (fun _ => ?_) | intro _ | simp only [List.set])
        cases hf : fol l[i] ⟨h, t, r⟩
        · repeat' (first | refine W ?_ | refine op2 ?_ | refine ob4 ?_ | refine ob2 (fun _ => ?_) | intro _ | simp only [List.set])
          exact ae_cut () ⟨rfl, rfl, rfl, rfl, rfl, trivial⟩ (List.Sublist.refl _)
        · repeat' (first | refine W ?_ | refine op2 ?_ | refine ob4 ?_ | refine ob2 (fun _ => ?_) | intro _ | simp only [List.set])
          by_cases hlt : i + 1 < l.length
          · rw [decide_eq_true (show ((i + 1 : Nat) : Int) < ((l.map staA).length : Int) by omega)]
            repeat' (first | refine W ?_ | refine op2 ?_ | refine ob4 ?_ | refine ob2 (fun _ => ?_) | intro _ | simp only [List.set])
            have hg : l.getD (i + 1) zeroS = l[i + 1] := by simp [List.getD, hlt]
            exact ae_cut () ⟨rfl, rfl, rfl, rfl, by rw [decide_eq_true hlt, hg]; rfl, trivial⟩ (List.Sublist.refl _)
          · rw [decide_eq_false (show ¬ ((i + 1 : Nat) : Int) < ((l.map staA).length : Int) by omega)]
            repeat' (first | refine W ?_ | refine op2 ?_ | refine ob4 ?_ | refine ob2 (fun _ => ?_) | intro _ | simp only [List.set])
            exact ae_cut () ⟨rfl, rfl, rfl, rfl, by rw [decide_eq_false hlt]; rfl, trivial⟩ (List.Sublist.refl _)
    · cases hbad : badAt l ⟨h, t, r⟩ (atI l h)
      · repeat' (first | refine ct1 ?_ | refine op1 ?_ | refine opL ?_ | refine op2 ?_ | refine ob1 ?_ | refine ob4 ?_ | refine ob2 (fun _ => ?_) | intro _)
        refine ac_perm [0, 1, 3, 4, 5, 2, 6, 7, 8] (by kernel_rfl) rfl hs (by kernel_rfl) ?_
        repeat' (first | refine ct1 ?_ | refine op1 ?_ | refine opL ?_ | refine op2 ?_ | refine ob1 ?_ | refine ob4 ?_ | refine ob2 (fun _ => ?_) | intro _)
        have hL : (l.take (atI l h) ++ ⟨h, t, r⟩ :: l.drop (atI l h)).length = l.length + 1 := by simp; omega
        have hmap : (l.map staA).take (atI l h) ++ staA ⟨h, t, r⟩ :: (l.map staA).drop (atI l h) = (l.take (atI l h) ++ ⟨h, t, r⟩ :: l.drop (atI l h)).map staA := by simp
        have hend : putC ⟨c, k, p, f, l⟩ ⟨h, t, r⟩ = ⟨c, k, p, f, (l.take (atI l h) ++ ⟨h, t, r⟩ :: l.drop (atI l h)).drop (l.length + 1 - 32)⟩ := put_ins his hbad
        rw [hend]
        apply obl_fresh []
        exact rfl
        exact rfl
        kernel_rfl
        kernel_rfl
        intro _ hs'
        refine al_callK [] _ (by rw [hs']; exact cloneS_spec (xs := l.map staA) (id := id) (by rw [List.length_map]; omega)) (fun u m1 hh => ?_) (List.Perm.refl _)
        rcases hh with ⟨hnil, rfl, rfl⟩ | ⟨g, cap, rfl, rfl, hcap⟩
        · obtain rfl : l = [] := by simpa using hnil
          have hx1 : ([staA ⟨h, t, r⟩] : List AV).length = 1 := rfl
          refine al_nil (ae_fresh [] [] rfl rfl (List.Perm.refl _) rfl ?_)
          apply obl_fresh []
          exact rfl
          exact rfl
          kernel_rfl
          kernel_rfl
          intro _ hs'
          refine al_callK [] _ (by rw [hs']; exact insertS_nil (x := staA ⟨h, t, r⟩) (idv := none)) (fun u m1 hh => ?_) (List.Perm.refl _)
          rcases hh with ⟨hnil, rfl, rfl⟩ | ⟨g, cap, rfl, rfl, hcap⟩
          · simp at hnil
          · refine al_freeze 68 ?_
            refine al_as 68 Imp.sl ?_
            refine al_nil (ae_fresh [] [.tail 76 34 _] rfl rfl (List.Perm.refl _) rfl ?_)
            repeat' (first | refine W ?_ | refine op2 ?_ | refine ob4 ?_ | refine ob2 (fun _ => ?_) | intro _ | simp only [List.set])
            refine al_sliceD 0 1 ?_
            repeat' (first | refine W ?_ | refine op2 ?_ | refine ob4 ?_ | refine ob2 (fun _ => ?_) | intro _ | simp only [List.set])
            refine reI ?_
            exact imp_cli1 (l := [⟨h, t, r⟩])
        · refine al_nil (ae_fresh [] [.buf g 76 34 (l.map staA) cap] rfl rfl (List.Perm.refl _) rfl ?_)
          apply obl_fresh [3]
          exact rfl
          exact rfl
          kernel_rfl
          kernel_rfl
          intro _ hs'
          refine al_callK [.buf g 76 34 (l.map staA) cap] [] (by rw [hs']; exact insertS_spec (i := atI l h) (x := staA ⟨h, t, r⟩) (idv := none) rfl hcap (by rw [hm]; exact hle) (by rw [hm]; omega)) (fun u m1 hh => ?_) (List.Perm.refl _)
          rw [hmap] at hh
          rcases hh with ⟨hnil, rfl, rfl⟩ | ⟨g, cap, rfl, rfl, hcap⟩
          · simp at hnil
          · refine al_freeze 68 ?_
            refine al_as 68 Imp.sl ?_
            refine al_nil (ae_fresh [.tail 76 34 _] [] rfl rfl (List.Perm.refl _) rfl ?_)
            have hL2 : ((l.take (atI l h) ++ ⟨h, t, r⟩ :: l.drop (atI l h)).map staA).length = l.length + 1 := by rw [List.length_map, hL]
            repeat' (first | refine W ?_ | refine op2 ?_ | refine ob4 ?_ | refine ob2 (fun _ => ?_) | intro _ | simp only [List.set])
            refine al_sliceD (l.length + 1 - 32) (l.length + 1) ?_
            rw [← hL2, List.take_length, hL2, ← List.map_drop]
            repeat' (first | refine W ?_ | refine op2 ?_ | refine ob4 ?_ | refine ob2 (fun _ => ?_) | intro _ | simp only [List.set])
            refine reI ?_
            exact imp_cli1
      · repeat' (first | refine W ?_ | refine op2 ?_ | refine ob4 ?_ | refine ob2 (fun _ => ?_) | intro _ | simp only [List.set])
        refine reI ?_
        rw [put_frz2 his hbad]
        exact imp_cli1
  · have hl : atI l h < l.length := by
      rcases Nat.lt_or_ge (atI l h) l.length with h | h
      · exact h
      · rw [atIs_out (by omega)] at his; cases his
    have hg : l.getD (atI l h) zeroS = l[atI l h] := by simp [List.getD, hl]
    repeat' (first | refine W ?_ | refine op2 ?_ | refine ob4 ?_ | refine ob2 (fun _ => ?_) | intro _ | simp only [List.set])
    by_cases he : l[atI l h] = ⟨h, t, r⟩
    · rw [sta_eq, decide_eq_true he]
      repeat' (first | refine W ?_ | refine op2 ?_ | refine ob4 ?_ | refine ob2 (fun _ => ?_) | intro _ | simp only [List.set])
      refine reI ?_
      rw [put_same his (hg.trans he)]
      exact imp_cli1
    · rw [sta_eq, decide_eq_false he]
      repeat' (first | refine W ?_ | refine op2 ?_ | refine ob4 ?_ | refine ob2 (fun _ => ?_) | intro _ | simp only [List.set])
      refine reI ?_
      rw [put_frz1 his (by rw [hg]; exact he)]
      exact imp_cli1⟩
end Go.Proofs.YtkijoddconipoaaGreatDoor

namespace Go.Proofs.YtkijoddconipoaaGreatDoor
open Go Go.RowKit Tw Av
theorem imp_zeroC' {n : Int} {o : Cli} (h : o = zeroC) : Imp (.tup [.agg 5 [str [], str [], int 0, boo false, nils], int n]) (.tup [cliA o, int n]) := by rw [h]; exact imp_zeroC
/-- bounds of what a client holds -/
structure CliOk (x : Cli) : Prop where
  n : x.l.length ≤ 1000000
  k : x.k.length ≤ 1000000
  t : -4611686018427387904 ≤ (latC x.l).t ∧ (latC x.l).t ≤ 4611686018427387904
  p : -4611686018427387904 ≤ x.p ∧ x.p < 4611686018427387904
theorem upd19 {x : Cli} {h : Hdr} {mac : Hsh} {now : Int} (e : actC x now = false) : updE x h mac now = 19 ∧ updC x h mac now = zeroC := by
  have : updE x h mac now = 19 := by unfold updE; rw [if_pos e]
  exact ⟨this, by unfold updC; rw [this]; rfl⟩
theorem upd1 {x : Cli} {h : Hdr} {mac : Hsh} {now : Int} (e : actC x now = true) (e2 : chkH h = false ∨ h.c ≠ x.c) : updE x h mac now = 1 ∧ updC x h mac now = zeroC := by
  have : updE x h mac now = 1 := by unfold updE; rw [if_neg (by rw [e]; simp), if_pos e2]
  exact ⟨this, by unfold updC; rw [this]; rfl⟩
theorem upd18 {x : Cli} {h : Hdr} {mac : Hsh} {now : Int} (e : actC x now = true) (e2 : chkH h = true) (e3 : h.c = x.c) (e4 : sealOf x.k h ≠ mac) : updE x h mac now = 18 ∧ updC x h mac now = zeroC := by
  have : updE x h mac now = 18 := by unfold updE; rw [if_neg (by rw [e]; simp), if_neg (by rw [e2, e3]; simp), if_pos e4]
  exact ⟨this, by unfold updC; rw [this]; rfl⟩
theorem upd0 {x : Cli} {h : Hdr} {mac : Hsh} {now : Int} (e : actC x now = true) (e2 : chkH h = true) (e3 : h.c = x.c) (e4 : sealOf x.k h = mac) : updE x h mac now = 0 ∧ updC x h mac now = putC x (stOf h) := by
  have : updE x h mac now = 0 := by unfold updE; rw [if_neg (by rw [e]; simp), if_neg (by rw [e2, e3]; simp), if_neg (by rw [e4]; simp)]
  exact ⟨this, by unfold updC; rw [this]; rfl⟩
set_option maxHeartbeats 1000000 in
instance fnUpdate {c k c' : Bs} {p h t now : Int} {f : Bool} {r mac : Hsh} {l : List Sta} {xs : List AV} {id : Option Value} [hx : Stas xs l] : Ans Tryz.prog GL 38 [.agg 5 [str c, str k, int p, boo f, .sl 34 xs id], .agg 35 [str c', int h, int t, hA r], hA mac, int now] (CliOk ⟨c, k, p, f, l⟩ ∧ h ≤ 9223372036854775807 ∧ t ≤ 9223372036854775807) (.tup [cliA (updC ⟨c, k, p, f, l⟩ ⟨c', h, t, r⟩ mac now), int (updE ⟨c, k, p, f, l⟩ ⟨c', h, t, r⟩ mac now)]) := ⟨fun hpre => by
  obtain ⟨⟨p1, p2, ⟨p3, p4⟩, p5, p6⟩, p7, p8⟩ := hpre
  dsimp only at p1 p2 p3 p4 p5 p6
  have hxo := hx.out
  subst hxo
  refine spec_enter Tryz.func38 rfl Tryz.ntmps38 rfl (fun _ hs => ?_)
  repeat' (first | refine W ?_ | refine op2 ?_ | refine ob4 ?_ | refine ob2 (fun _ => ?_) | intro _ | simp only [List.set])
  cases ha : actC ⟨c, k, p, f, l⟩ now
  · obtain ⟨e1, e2⟩ := upd19 (h := ⟨c', h, t, r⟩) (mac := mac) ha
    rw [e1]
    repeat' (first | refine W ?_ | refine op2 ?_ | refine ob4 ?_ | refine ob2 (fun _ => ?_) | intro _ | simp only [List.set])
    refine reI ?_
    exact imp_zeroC' e2
  repeat' (first | refine W ?_ | refine op2 ?_ | refine ob4 ?_ | refine ob2 (fun _ => ?_) | intro _ | simp only [List.set])
  cases hc : chkH ⟨c', h, t, r⟩
  · obtain ⟨e1, e2⟩ := upd1 (mac := mac) ha (.inl hc)
    rw [e1]
    repeat' (first | refine W ?_ | refine op2 ?_ | refine ob4 ?_ | refine ob2 (fun _ => ?_) | intro _ | simp only [List.set])
    refine reI ?_
    exact imp_zeroC' e2
  repeat' (first | refine W ?_ | refine op2 ?_ | refine ob4 ?_ | refine ob2 (fun _ => ?_) | intro _ | simp only [List.set])
  by_cases hcc : c' ≠ c
  · obtain ⟨e1, e2⟩ := upd1 (h := ⟨c', h, t, r⟩) (mac := mac) ha (.inr hcc)
    rw [e1, decide_eq_true hcc]
    repeat' (first | refine W ?_ | refine op2 ?_ | refine ob4 ?_ | refine ob2 (fun _ => ?_) | intro _ | simp only [List.set])
    refine reI ?_
    exact imp_zeroC' e2
  · rw [decide_eq_false hcc]
    have hcc : c' = c := Classical.not_not.1 hcc
    repeat' (first | refine W ?_ | refine op2 ?_ | refine ob4 ?_ | refine ob2 (fun _ => ?_) | intro _ | simp only [List.set])
    by_cases hmac : sealOf k ⟨c', h, t, r⟩ ≠ mac
    · obtain ⟨e1, e2⟩ := upd18 (x := ⟨c, k, p, f, l⟩) ha hc hcc hmac
      rw [e1, decide_eq_false (show ¬ sealOf k ⟨c', h, t, r⟩ = mac from hmac)]
      repeat' (first | refine W ?_ | refine op2 ?_ | refine ob4 ?_ | refine ob2 (fun _ => ?_) | intro _ | simp only [List.set])
      refine reI ?_
      exact imp_zeroC' e2
    · have hmac : sealOf k ⟨c', h, t, r⟩ = mac := Classical.not_not.1 hmac
      obtain ⟨e1, e2⟩ := upd0 (x := ⟨c, k, p, f, l⟩) ha hc hcc hmac
      rw [e1, decide_eq_true hmac]
      repeat' (first | refine W ?_ | refine op2 ?_ | refine ob4 ?_ | refine ob2 (fun _ => ?_) | intro _ | simp only [List.set])
      refine reE ?_
      rw [e2]
      rfl⟩
instance fnSame {c k c' k' : Bs} {p p' : Int} {f f' : Bool} {l l' : List Sta} {xs ys : List AV} {id id' : Option Value} [hx : Stas xs l] [hy : Stas ys l'] : Ans Tryz.prog GL 17 [.agg 5 [str c, str k, int p, boo f, .sl 34 xs id], .agg 5 [str c', str k', int p', boo f', .sl 34 ys id']] True (boo (decide ((⟨c, k, p, f, l⟩ : Cli) = ⟨c', k', p', f', l'⟩))) := ⟨fun _ => by
  refine spec_enter Tryz.func17 rfl Tryz.ntmps17 rfl (fun _ hs => ?_)
  repeat' (first | refine W ?_ | refine op2 ?_ | refine ob4 ?_ | intro _ | refine ob2 (fun _ => ?_) | refine ac_cond ?_ ?_ | refine ac_condB ?_ ?_ | refine gu1 ?_ ?_ | refine gu2 ?_ ?_)
  all_goals (refine reE ?_; refine boo_iff ?_; simp only [decide_eq_true_eq, Bool.false_eq_true, iff_true, true_iff, false_iff, Cli.mk.injEq] at *; simp_all)⟩
set_option maxHeartbeats 1000000 in
instance fnRSame {c k c' k' : Bs} {p p' : Int} {f f' : Bool} {l l' : List Sta} {xs ys : List AV} {id id' : Option Value} [hx : Stas xs l] [hy : Stas ys l'] : Ans Tryz.prog GL 15 [.agg 5 [str c, str k, int p, boo f, .sl 34 xs id], .agg 5 [str c', str k', int p', boo f', .sl 34 ys id']] True (boo (decide ((⟨c, k, p, f, l⟩ : Cli) = ⟨c', k', p', f', l'⟩))) := ⟨fun _ => by
  have h := hx.out
  subst h
  have h := hy.out
  subst h
  have hma : (l.map staA).length = l.length := List.length_map _
  have hmb : (l'.map staA).length = l'.length := List.length_map _
  refine spec_enter Tryz.func15 rfl Tryz.ntmps15 rfl (fun _ hs => ?_)
  refine ac_bndA 0 4 (fun hb => ?_)
  have hb := maxLen_le hb
  repeat' (first | refine W ?_ | refine op2 ?_ | refine ob4 ?_ | refine ob2 (fun _ => ?_) | intro _ | simp only [List.set])
  refine ac_cond (fun h1 => ?_) (fun h1 => ?_)
  · repeat' (first | refine W ?_ | refine op2 ?_ | refine ob4 ?_ | refine ob2 (fun _ => ?_) | intro _ | simp only [List.set])
    refine reE ?_
    have hne : ¬ l = l' := fun h => by subst h; omega
    simp [outOf, hne]
  · have hl : l.length = l'.length := by omega
    repeat' (first | refine W ?_ | refine op2 ?_ | refine ob4 ?_ | refine ob2 (fun _ => ?_) | intro _ | simp only [List.set])
    rename_i g2 g3
    refine ac_loop (α := Nat) (fun i => [(2, ptr g2), (3, ptr g3), (5, int i)]) (fun i => [.var g3 28 (.agg 5 [str c', str k', int p', boo f', .sl 34 (l'.map staA) id']), .var g2 28 (.agg 5 [str c, str k, int p, boo f, .sl 34 (l.map staA) id])])
      (fun i => i ≤ l.length ∧ ∀ j, (h1 : j < l.length) → (h2 : j < l'.length) → j < i → l[j] = l'[j]) (fun i => l.length - i) 0 ⟨rfl, rfl, rfl, trivial⟩ (List.Sublist.refl _) ⟨Nat.zero_le _, fun _ _ _ h => absurd h (by omega)⟩ ?_
    rintro i ⟨hi, hall⟩
    repeat' (first | refine W ?_ | refine op2 ?_ | refine ob4 ?_ | refine ob2 (fun _ => ?_) | intro _ | simp only [List.set])
    refine ac_cond (fun hlt => ?_) (fun hlt => ?_)
    · have hia : i < l.length := by omega
      have hib : i < l'.length := by omega
      repeat' (first | refine W ?_ | refine op2 ?_ | refine ob4 ?_ | refine ob2 (fun _ => ?_) | intro _ | simp only [List.set])
      rw [sta_eq]
      by_cases hh : l[i] = l'[i]
      · rw [decide_eq_true hh]
        repeat' (first | refine W ?_ | refine op2 ?_ | refine ob4 ?_ | refine ob2 (fun _ => ?_) | intro _ | simp only [List.set])
        refine ae_round (i + 1) ⟨rfl, rfl, rfl, trivial⟩ (List.Sublist.refl _) ⟨hia, fun j h1 h2 h => ?_⟩ (by omega)
        rcases Nat.lt_or_ge j i with h3 | h3
        · exact hall j h1 h2 h3
        · obtain rfl : j = i := by omega
          exact hh
      · rw [decide_eq_false hh]
        repeat' (first | refine W ?_ | refine op2 ?_ | refine ob4 ?_ | refine ob2 (fun _ => ?_) | intro _ | simp only [List.set])
        refine reE ?_
        have hne : ¬ l = l' := fun h => by subst h; exact hh rfl
        simp [outOf, hne]
    · obtain rfl : i = l.length := by omega
      have hll : l = l' := eq_of_all hl fun j h1 h2 => hall j h1 h2 h1
      repeat' (first | refine W ?_ | refine op2 ?_ | refine ob4 ?_ | intro _ | refine ob2 (fun _ => ?_) | refine ac_cond ?_ ?_ | refine ac_condB ?_ ?_ | refine gu1 ?_ ?_ | refine gu2 ?_ ?_)
      all_goals (refine reE ?_; refine boo_iff ?_; simp only [decide_eq_true_eq, Bool.false_eq_true, iff_true, true_iff, false_iff, Cli.mk.injEq] at *; simp_all)⟩
end Go.Proofs.YtkijoddconipoaaGreatDoor
