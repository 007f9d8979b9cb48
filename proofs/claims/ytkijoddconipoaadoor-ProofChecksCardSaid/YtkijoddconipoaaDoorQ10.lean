/- Law 09: the law that ways lead, walked. -/
import Derived.Test.YtkijoddconipoaaDoorP1
import Derived.Test.YtkijoddconipoaaDoorP2
import Derived.Test.YtkijoddconipoaaDoorP3
import Derived.Test.YtkijoddconipoaaDoorP4
import Derived.Test.YtkijoddconipoaaDoorQ1
import Derived.Test.YtkijoddconipoaaDoorQ2
import Derived.Test.YtkijoddconipoaaDoorK1
import Derived.Test.YtkijoddconipoaaDoorQ3
import Derived.Test.YtkijoddconipoaaDoorQ4
import Derived.Test.YtkijoddconipoaaDoorQ5
import Derived.Test.YtkijoddconipoaaDoorQ6
import Derived.Test.YtkijoddconipoaaDoorQ7
import Derived.Test.YtkijoddconipoaaDoorQ8
namespace Go.Proofs.YtkijoddconipoaaDoor
open Go Go.RowKit Tw Av
theorem foldH_path {l : List Hsh} {i : Nat} (h : i < l.length) (h2 : l.length ≤ 2000) : foldH l.length i l[i] (pathH l i) = some (topH l.length (treeH l)) := by
  have hw := way_eq h h2
  unfold foldH
  rw [if_neg (by rw [pathH_len]; omega), pathH, hw, up_path l.length l i l[i] rfl (List.getElem?_eq_getElem h)]
theorem foldH_long {l : List Hsh} {i : Int} {h x : Hsh} : foldH l.length i h (pathH l i ++ [x]) = none := by
  unfold foldH
  rw [if_pos (by rw [List.length_append, pathH_len]; simp)]
theorem tmod_rng (a : Int) {b : Int} (h : 0 < b) : -b < a.tmod b ∧ a.tmod b < b := ⟨Int.lt_tmod_of_pos a h, Int.tmod_lt_of_pos a h⟩
set_option maxHeartbeats 2000000 in
instance fnTreeLeads {l : List Ent} {at_ : Int} {xs : List AV} {id : Option Value} [hx : Ents xs l] : Ans Tryd.prog GL 13 [.sl 2 xs id, int at_] (-9223372036854775808 ≤ at_ ∧ at_ ≤ 9223372036854775807) (boo true) := ⟨fun hb => by
  have h1 := hx.out
  subst h1
  refine spec_enter Tryd.func13 rfl Tryd.ntmps13 rfl (fun _ hs => ?_)
  repeat' (first | refine W ?_ | refine ob2 (fun _ => ?_) | intro _)
  have h3 := fewOf_len l
  have h4 := fewOf_dict l
  generalize fewOf l = f at *
  have hm : (f.map entA).length = f.length := List.length_map _
  repeat' (first | refine W ?_ | refine ob2 (fun _ => ?_) | intro _)
  rw [h4]
  repeat' (first | refine W ?_ | refine ob2 (fun _ => ?_) | intro _)
  refine ac_cond (fun h2 => ?_) (fun h2 => ?_)
  · repeat' (first | refine W ?_ | refine ob2 (fun _ => ?_) | intro _)
    refine reE ?_
    have : f = [] := List.length_eq_zero_iff.1 (by omega)
    subst this
    rw [List.length_map, show (pathH (([] : List Ent).map leafH) at_).length = 0 by rw [pathH_len]; exact Nat.le_zero.1 (way_len 0 at_)]
    simp [outOf]
  · repeat' (first | refine W ?_ | refine ob2 (fun _ => ?_) | intro _)
    have t2 := tmod_rng at_ (b := ((f.map entA).length : Int)) (by omega)
    refine al_tmod ?_
    generalize at_.tmod ((f.map entA).length : Int) = r2 at *
    repeat' (first | refine W ?_ | refine ob2 (fun _ => ?_) | intro _)
    rw [hm] at h2 t2 ⊢
    obtain ⟨i, hi⟩ : ∃ i : Nat, (r2 + (f.length : Int)) % (f.length : Int) = (i : Int) := ⟨((r2 + (f.length : Int)) % (f.length : Int)).toNat, by
      have := Int.emod_nonneg (r2 + (f.length : Int)) (b := (f.length : Int)) (by omega)
      omega⟩
    have hin : i < f.length := by
      have := Int.emod_lt_of_pos (r2 + (f.length : Int)) (b := (f.length : Int)) (by omega)
      omega
    rw [hi]
    repeat' (first | refine W ?_ | refine ob2 (fun _ => ?_) | intro _)
    refine al_idxM (l := f) (f := entA) i hin ?_
    repeat' (first | refine W ?_ | refine ob2 (fun _ => ?_) | intro _)
    have hin' : i < (f.map leafH).length := by simpa using hin
    have hfo := foldH_path hin' (by simp; omega)
    rw [List.length_map] at hfo
    rw [show leafH ⟨f[i].key, f[i].val⟩ = (f.map leafH)[i] by simp, hfo]
    refine al_as 57 (Imp.nil (k := 32)) ?_
    refine al_st (fun ok w h => h.full 24 32 none 0) ?_
    have hp : (pathH (f.map leafH) i).length ≤ 12 := by
      rw [pathH_len]
      refine Nat.le_trans (way_len _ _) ?_
      simpa using h3
    refine al_append (fun v' => ?_)
    rw [List.nil_append]
    repeat' (first | refine W ?_ | refine ob2 (fun _ => ?_) | intro _)
    refine al_append (fun v'' => ?_)
    repeat' (first | refine W ?_ | refine ob2 (fun _ => ?_) | intro _)
    refine al_idxM (l := f) (f := entA) i hin ?_
    rw [hm]
    repeat' (first | refine W ?_ | refine ob2 (fun _ => ?_) | intro _)
    have hfl := foldH_long (l := f.map leafH) (i := i) (h := leafH ⟨f[i].key, f[i].val⟩) (x := (some (topH (↑f.length) (treeH (List.map leafH f)))).getD zeroH)
    rw [List.length_map] at hfl
    rw [hfl]
    repeat' (first | refine W ?_ | refine opE ?_ | refine obE ?_ | refine ob2 (fun _ => ?_) | intro _)
    refine reE ?_
    simp [outOf, pathH_len]⟩
end Go.Proofs.YtkijoddconipoaaDoor
