/- Proofs and gaps, written and read. -/
import Derived.Test.YtkijoddconipoaaGreatDoorP1
import Derived.Test.YtkijoddconipoaaGreatDoorP2
import Derived.Test.YtkijoddconipoaaGreatDoorP3
import Derived.Test.YtkijoddconipoaaGreatDoorP4
import Derived.Test.YtkijoddconipoaaGreatDoorP5
import Derived.Test.YtkijoddconipoaaGreatDoorQ1
import Derived.Test.YtkijoddconipoaaGreatDoorQ2
import Derived.Test.YtkijoddconipoaaGreatDoorK1
import Derived.Test.YtkijoddconipoaaGreatDoorQ3
import Derived.Test.YtkijoddconipoaaGreatDoorQ4
import Derived.Test.YtkijoddconipoaaGreatDoorQ5
import Derived.Test.YtkijoddconipoaaGreatDoorQ13
import Derived.Test.YtkijoddconipoaaGreatDoorQ14
import Derived.Test.YtkijoddconipoaaGreatDoorQ6
import Derived.Test.YtkijoddconipoaaGreatDoorQ7
import Derived.Test.YtkijoddconipoaaGreatDoorQ8
import Derived.Test.YtkijoddconipoaaGreatDoorQ10
import Derived.Test.YtkijoddconipoaaGreatDoorR10
import Derived.Test.YtkijoddconipoaaGreatDoorR11
import Derived.Test.YtkijoddconipoaaGreatDoorR12
namespace Go.Proofs.YtkijoddconipoaaGreatDoor
open Go Go.RowKit Tw Av
def prfB (p : Prf) : Bs := tlvI 105 p.a ++ tlvI 109 p.m ++ tlvA 112 (p.p.map fun h => h.l)
def sideT (l : List Ent) : List Bs := l.flatMap fun x => [x.key, x.val]
def sidB (l : List Ent) (p : Prf) : Bs := tlvA 101 (sideT l) ++ tlvT 80 (prfB p)
def gapB (g : Gp) : Bs := tlvI 109 g.n ++ sidB g.l g.a ++ sidB g.r g.b
instance fnPBytes {i m : Int} {p : List Hsh} {xs : List AV} {id : Option Value} [hx : Hshs xs p] : Ans Tryz.prog GL 30 [.agg 3 [int i, int m, .sl 32 xs id]] (p.length ≤ 1000000 ∧ i ≤ 9223372036854775807 ∧ m ≤ 9223372036854775807) (str (prfB ⟨i, m, p⟩)) := ⟨fun hp => by
  obtain ⟨hn, hi, hmm⟩ := hp
  have h := hx.out
  subst h
  have hm : (p.map hA).length = p.length := List.length_map _
  refine spec_enter Tryz.func30 rfl Tryz.ntmps30 rfl (fun _ hs => ?_)
  repeat' (first | refine W ?_ | refine op2 ?_ | refine op6 ?_ | refine ob4 ?_ | refine ob6 ?_ | refine ob2 (fun _ => ?_) | intro _ | simp only [List.set] | refine gdT ?_ | refine gdF ?_ | refine cdT ?_ | refine cdF ?_ | fail)
  rename_i g1
  refine ac_as 3 (Imp.nil (k := 1)) ?_
  refine ac_st (fun ok w h => h.full 9 1 none 0) ?_
  refine ac_loop (α := Nat × Value) (fun q => [(1, ptr g1), (3, .sl 1 (((p.take q.1).map fun h => h.l).map str) (some q.2)), (7, .sl 32 (p.map hA) id), (8, int p.length), (9, int q.1)]) (fun q => [.tail 9 1 q.2, .var g1 52 (.agg 3 [int i, int m, .sl 32 (p.map hA) id])]) (fun q => q.1 ≤ p.length) (fun q => p.length - q.1) (0, .slice none 0 0) ⟨rfl, rfl, rfl, by rw [← hm]; rfl, rfl, trivial⟩ (List.Sublist.refl _) (Nat.zero_le _) ?_
  rintro ⟨j, v⟩ hj
  dsimp only at hj ⊢
  repeat' (first | refine W ?_ | refine op2 ?_ | refine op6 ?_ | refine ob4 ?_ | refine ob6 ?_ | refine ob2 (fun _ => ?_) | intro _ | simp only [List.set] | refine gdT ?_ | refine gdF ?_ | refine cdT ?_ | refine cdF ?_ | fail)
  refine ac_cond (fun hlt => ?_) (fun hlt => ?_)
  · have hil : j < p.length := by omega
    have hml : ((p.take j).map fun h => h.l).length ≤ 1000000 := by simp; omega
    repeat' (first | refine W ?_ | refine op2 ?_ | refine op6 ?_ | refine ob4 ?_ | refine ob6 ?_ | refine ob2 (fun _ => ?_) | intro _ | simp only [List.set] | refine gdT ?_ | refine gdF ?_ | refine cdT ?_ | refine cdF ?_ | fail)
    refine al_append (fun v' => ?_)
    repeat' (first | refine W ?_ | refine op2 ?_ | refine op6 ?_ | refine ob4 ?_ | refine ob6 ?_ | refine ob2 (fun _ => ?_) | intro _ | simp only [List.set] | refine gdT ?_ | refine gdF ?_ | refine cdT ?_ | refine cdF ?_ | fail)
    refine ae_round (j + 1, v') ⟨rfl, ?_, rfl, rfl, rfl, trivial⟩ (List.Sublist.cons _ (List.Sublist.refl _)) hil (by dsimp only; omega)
    rw [List.take_succ_eq_append_getElem hil, List.map_append, List.map_append]
    rfl
  · obtain rfl : j = p.length := by omega
    rw [List.take_length]
    have hml : (p.map fun h => h.l).length ≤ 8000000 := by simp; omega
    repeat' (first | refine W ?_ | refine op2 ?_ | refine op6 ?_ | refine ob4 ?_ | refine ob6 ?_ | refine ob2 (fun _ => ?_) | intro _ | simp only [List.set] | refine gdT ?_ | refine gdF ?_ | refine cdT ?_ | refine cdF ?_ | fail)
    refine reE ?_
    rfl⟩
instance fnRPBytes {i m : Int} {p : List Hsh} {xs : List AV} {id : Option Value} [hx : Hshs xs p] : Ans Tryz.prog GL 31 [.agg 3 [int i, int m, .sl 32 xs id]] (p.length ≤ 1000000 ∧ i ≤ 9223372036854775807 ∧ m ≤ 9223372036854775807) (str (prfB ⟨i, m, p⟩)) := ⟨fun hp => by
  obtain ⟨hn, hi, hmm⟩ := hp
  have h := hx.out
  subst h
  have hm : (p.map hA).length = p.length := List.length_map _
  refine spec_enter Tryz.func31 rfl Tryz.ntmps31 rfl (fun _ hs => ?_)
  repeat' (first | refine W ?_ | refine op2 ?_ | refine op6 ?_ | refine ob4 ?_ | refine ob6 ?_ | refine ob2 (fun _ => ?_) | intro _ | simp only [List.set] | refine gdT ?_ | refine gdF ?_ | refine cdT ?_ | refine cdF ?_ | fail)
  rename_i g1
  refine ac_as 3 (Imp.nil (k := 1)) ?_
  refine ac_st (fun ok w h => h.full 9 1 none 0) ?_
  refine ac_loop (α := Nat × Value) (fun q => [(1, ptr g1), (3, .sl 1 (((p.take q.1).map fun h => h.l).map str) (some q.2)), (4, int q.1)]) (fun q => [.tail 9 1 q.2, .var g1 52 (.agg 3 [int i, int m, .sl 32 (p.map hA) id])]) (fun q => q.1 ≤ p.length) (fun q => p.length - q.1) (0, .slice none 0 0) ⟨rfl, rfl, rfl, trivial⟩ (List.Sublist.refl _) (Nat.zero_le _) ?_
  rintro ⟨j, v⟩ hj
  dsimp only at hj ⊢
  repeat' (first | refine W ?_ | refine op2 ?_ | refine op6 ?_ | refine ob4 ?_ | refine ob6 ?_ | refine ob2 (fun _ => ?_) | intro _ | simp only [List.set] | refine gdT ?_ | refine gdF ?_ | refine cdT ?_ | refine cdF ?_ | fail)
  refine ac_cond (fun hlt => ?_) (fun hlt => ?_)
  · have hil : j < p.length := by omega
    have hml : ((p.take j).map fun h => h.l).length ≤ 1000000 := by simp; omega
    repeat' (first | refine W ?_ | refine op2 ?_ | refine op6 ?_ | refine ob4 ?_ | refine ob6 ?_ | refine ob2 (fun _ => ?_) | intro _ | simp only [List.set] | refine gdT ?_ | refine gdF ?_ | refine cdT ?_ | refine cdF ?_ | fail)
    refine al_append (fun v' => ?_)
    repeat' (first | refine W ?_ | refine op2 ?_ | refine op6 ?_ | refine ob4 ?_ | refine ob6 ?_ | refine ob2 (fun _ => ?_) | intro _ | simp only [List.set] | refine gdT ?_ | refine gdF ?_ | refine cdT ?_ | refine cdF ?_ | fail)
    refine ae_round (j + 1, v') ⟨rfl, ?_, rfl, trivial⟩ (List.Sublist.refl _) hil (by dsimp only; omega)
    rw [List.take_succ_eq_append_getElem hil, List.map_append, List.map_append]
    rfl
  · obtain rfl : j = p.length := by omega
    rw [List.take_length]
    have hml : (p.map fun h => h.l).length ≤ 8000000 := by simp; omega
    repeat' (first | refine W ?_ | refine op2 ?_ | refine op6 ?_ | refine ob4 ?_ | refine ob6 ?_ | refine ob2 (fun _ => ?_) | intro _ | simp only [List.set] | refine gdT ?_ | refine gdF ?_ | refine cdT ?_ | refine cdF ?_ | fail)
    refine reE ?_
    rfl⟩
end Go.Proofs.YtkijoddconipoaaGreatDoor

namespace Go.Proofs.YtkijoddconipoaaGreatDoor
open Go Go.RowKit Tw Av
theorem sideT_len (l : List Ent) : (sideT l).length = l.length * 2 := by
  induction l with
  | nil => rfl
  | cons x l ih => simp [sideT] at ih ⊢; omega
theorem sideT_next {l : List Ent} {j : Nat} (h : j < l.length) : sideT (l.take (j + 1)) = sideT (l.take j) ++ [l[j].key, l[j].val] := by
  unfold sideT
  rw [List.take_succ_eq_append_getElem h, List.flatMap_append]
  simp
theorem prfB_len (p : Prf) : (prfB p).length ≤ 50331657 := by
  have h1 := tlvT_len 105 (digits p.a.toNat)
  have h2 := tlvT_len 109 (digits p.m.toNat)
  have h3 := tlvT_len 112 ((p.p.map fun h => h.l).flatMap (tlvT 112))
  have e : prfB p = tlvT 105 (digits p.a.toNat) ++ tlvT 109 (digits p.m.toNat) ++ tlvT 112 ((p.p.map fun h => h.l).flatMap (tlvT 112)) := rfl
  rw [e]
  simp only [List.length_append]
  omega
instance {l : List Ent} {p : Prf} : LenLe (sidB l p) 33554438 := ⟨by
  have h1 := tlvT_len 101 ((sideT l).flatMap (tlvT 101))
  have h2 := tlvT_len 80 (prfB p)
  have e : sidB l p = tlvT 101 ((sideT l).flatMap (tlvT 101)) ++ tlvT 80 (prfB p) := rfl
  rw [e, List.length_append]
  omega⟩
instance fnPSide {l : List Ent} {i m : Int} {p : List Hsh} {xs ys : List AV} {id id2 : Option Value} [hx : Ents xs l] [hy : Hshs ys p] : Ans Tryz.prog GL 80 [.sl 2 xs id, .agg 3 [int i, int m, .sl 32 ys id2]] (l.length ≤ 1000000 ∧ p.length ≤ 1000000 ∧ i ≤ 9223372036854775807 ∧ m ≤ 9223372036854775807) (str (sidB l ⟨i, m, p⟩)) := ⟨fun hp => by
  obtain ⟨hll, hn, hi, hmm⟩ := hp
  have h := hx.out
  have h2 := hy.out
  subst h h2
  have hm : (l.map entA).length = l.length := List.length_map _
  refine spec_enter Tryz.func80 rfl Tryz.ntmps80 rfl (fun _ hs => ?_)
  repeat' (first | refine W ?_ | refine op2 ?_ | refine op6 ?_ | refine ob4 ?_ | refine ob6 ?_ | refine ob2 (fun _ => ?_) | intro _ | simp only [List.set] | refine gdT ?_ | refine gdF ?_ | refine cdT ?_ | refine cdF ?_ | fail)
  rename_i g1
  refine ac_as 5 (Imp.nil (k := 1)) ?_
  refine ac_st (fun ok w h => h.full 9 1 none 0) ?_
  refine ac_loop (α := Nat × Value) (fun q => [(3, ptr g1), (5, .sl 1 ((sideT (l.take q.1)).map str) (some q.2)), (8, .sl 2 (l.map entA) id), (9, int l.length), (10, int q.1)]) (fun q => [.tail 9 1 q.2, .var g1 52 (.agg 3 [int i, int m, .sl 32 (p.map hA) id2])]) (fun q => q.1 ≤ l.length) (fun q => l.length - q.1) (0, .slice none 0 0) ⟨rfl, rfl, rfl, by rw [← hm]; rfl, rfl, trivial⟩ (List.Sublist.refl _) (Nat.zero_le _) ?_
  rintro ⟨j, v⟩ hj
  dsimp only at hj ⊢
  repeat' (first | refine W ?_ | refine op2 ?_ | refine op6 ?_ | refine ob4 ?_ | refine ob6 ?_ | refine ob2 (fun _ => ?_) | intro _ | simp only [List.set] | refine gdT ?_ | refine gdF ?_ | refine cdT ?_ | refine cdF ?_ | fail)
  refine ac_cond (fun hlt => ?_) (fun hlt => ?_)
  · have hil : j < l.length := by omega
    have hml : (sideT (l.take j)).length ≤ 2000000 := by rw [sideT_len]; simp; omega
    repeat' (first | refine W ?_ | refine op2 ?_ | refine op6 ?_ | refine ob4 ?_ | refine ob6 ?_ | refine ob2 (fun _ => ?_) | intro _ | simp only [List.set] | refine gdT ?_ | refine gdF ?_ | refine cdT ?_ | refine cdF ?_ | fail)
    refine al_append (fun v' => ?_)
    repeat' (first | refine W ?_ | refine op2 ?_ | refine op6 ?_ | refine ob4 ?_ | refine ob6 ?_ | refine ob2 (fun _ => ?_) | intro _ | simp only [List.set] | refine gdT ?_ | refine gdF ?_ | refine cdT ?_ | refine cdF ?_ | fail)
    refine ae_round (j + 1, v') ⟨rfl, ?_, rfl, rfl, rfl, trivial⟩ (List.Sublist.cons _ (List.Sublist.refl _)) hil (by dsimp only; omega)
    rw [sideT_next hil, List.map_append]
    rfl
  · obtain rfl : j = l.length := by omega
    rw [List.take_length]
    have hml : (sideT l).length ≤ 8000000 := by rw [sideT_len]; omega
    repeat' (first | refine W ?_ | refine op2 ?_ | refine op6 ?_ | refine ob4 ?_ | refine ob6 ?_ | refine ob2 (fun _ => ?_) | intro _ | simp only [List.set] | refine gdT ?_ | refine gdF ?_ | refine cdT ?_ | refine cdF ?_ | fail)
    refine reE ?_
    rfl⟩
instance fnRPSide {l : List Ent} {i m : Int} {p : List Hsh} {xs ys : List AV} {id id2 : Option Value} [hx : Ents xs l] [hy : Hshs ys p] : Ans Tryz.prog GL 81 [.sl 2 xs id, .agg 3 [int i, int m, .sl 32 ys id2]] (l.length ≤ 1000000 ∧ p.length ≤ 1000000 ∧ i ≤ 9223372036854775807 ∧ m ≤ 9223372036854775807) (str (sidB l ⟨i, m, p⟩)) := ⟨fun hp => by
  obtain ⟨hll, hn, hi, hmm⟩ := hp
  have h := hx.out
  have h2 := hy.out
  subst h h2
  have hm : (l.map entA).length = l.length := List.length_map _
  refine spec_enter Tryz.func81 rfl Tryz.ntmps81 rfl (fun _ hs => ?_)
  repeat' (first | refine W ?_ | refine op2 ?_ | refine op6 ?_ | refine ob4 ?_ | refine ob6 ?_ | refine ob2 (fun _ => ?_) | intro _ | simp only [List.set] | refine gdT ?_ | refine gdF ?_ | refine cdT ?_ | refine cdF ?_ | fail)
  rename_i g1
  refine ac_as 5 (Imp.nil (k := 1)) ?_
  refine ac_st (fun ok w h => h.full 9 1 none 0) ?_
  refine ac_loop (α := Nat × Value) (fun q => [(0, .sl 2 (l.map entA) id), (3, ptr g1), (5, .sl 1 ((sideT (l.take q.1)).map str) (some q.2)), (6, int q.1)]) (fun q => [.tail 9 1 q.2, .var g1 52 (.agg 3 [int i, int m, .sl 32 (p.map hA) id2])]) (fun q => q.1 ≤ l.length) (fun q => l.length - q.1) (0, .slice none 0 0) ⟨rfl, rfl, rfl, rfl, trivial⟩ (List.Sublist.refl _) (Nat.zero_le _) ?_
  rintro ⟨j, v⟩ hj
  dsimp only at hj ⊢
  repeat' (first | refine W ?_ | refine op2 ?_ | refine op6 ?_ | refine ob4 ?_ | refine ob6 ?_ | refine ob2 (fun _ => ?_) | intro _ | simp only [List.set] | refine gdT ?_ | refine gdF ?_ | refine cdT ?_ | refine cdF ?_ | fail)
  refine ac_cond (fun hlt => ?_) (fun hlt => ?_)
  · have hil : j < l.length := by omega
    have hml : (sideT (l.take j)).length ≤ 2000000 := by rw [sideT_len]; simp; omega
    repeat' (first | refine W ?_ | refine op2 ?_ | refine op6 ?_ | refine ob4 ?_ | refine ob6 ?_ | refine ob2 (fun _ => ?_) | intro _ | simp only [List.set] | refine gdT ?_ | refine gdF ?_ | refine cdT ?_ | refine cdF ?_ | fail)
    refine al_append (fun v' => ?_)
    repeat' (first | refine W ?_ | refine op2 ?_ | refine op6 ?_ | refine ob4 ?_ | refine ob6 ?_ | refine ob2 (fun _ => ?_) | intro _ | simp only [List.set] | refine gdT ?_ | refine gdF ?_ | refine cdT ?_ | refine cdF ?_ | fail)
    refine al_append (fun v'' => ?_)
    repeat' (first | refine W ?_ | refine op2 ?_ | refine op6 ?_ | refine ob4 ?_ | refine ob6 ?_ | refine ob2 (fun _ => ?_) | intro _ | simp only [List.set] | refine gdT ?_ | refine gdF ?_ | refine cdT ?_ | refine cdF ?_ | fail)
    refine ae_round (j + 1, v'') ⟨rfl, rfl, ?_, rfl, trivial⟩ (List.Sublist.refl _) hil (by dsimp only; omega)
    rw [sideT_next hil, List.map_append]
    simp
    rfl
  · obtain rfl : j = l.length := by omega
    rw [List.take_length]
    have hml : (sideT l).length ≤ 8000000 := by rw [sideT_len]; omega
    repeat' (first | refine W ?_ | refine op2 ?_ | refine op6 ?_ | refine ob4 ?_ | refine ob6 ?_ | refine ob2 (fun _ => ?_) | intro _ | simp only [List.set] | refine gdT ?_ | refine gdF ?_ | refine cdT ?_ | refine cdF ?_ | fail)
    refine reE ?_
    rfl⟩
structure GapW (g : Gp) : Prop where
  l : g.l.length ≤ 1000000 ∧ g.a.p.length ≤ 1000000 ∧ g.a.a ≤ 9223372036854775807 ∧ g.a.m ≤ 9223372036854775807
  r : g.r.length ≤ 1000000 ∧ g.b.p.length ≤ 1000000 ∧ g.b.a ≤ 9223372036854775807 ∧ g.b.m ≤ 9223372036854775807
  n : g.n ≤ 9223372036854775807
instance fnGBytes {n i m i2 m2 : Int} {l r : List Ent} {p q : List Hsh} {xs ys zs ws : List AV} {d1 d2 d3 d4 : Option Value} [hx : Ents xs l] [hy : Ents ys r] [hz : Hshs zs p] [hw : Hshs ws q] : Ans Tryz.prog GL 32 [.agg 9 [int n, .sl 2 xs d1, .sl 2 ys d2, .agg 3 [int i, int m, .sl 32 zs d3], .agg 3 [int i2, int m2, .sl 32 ws d4]]] (GapW ⟨n, l, r, ⟨i, m, p⟩, ⟨i2, m2, q⟩⟩) (str (gapB ⟨n, l, r, ⟨i, m, p⟩, ⟨i2, m2, q⟩⟩)) := ⟨fun hp => by
  obtain ⟨hl, hr, hn⟩ := hp
  dsimp only at hl hr hn
  refine spec_enter Tryz.func32 rfl Tryz.ntmps32 rfl (fun _ hs => ?_)
  repeat' (first | refine W ?_ | refine op2 ?_ | refine op6 ?_ | refine ob4 ?_ | refine ob6 ?_ | refine ob2 (fun _ => ?_) | intro _ | simp only [List.set] | refine gdT ?_ | refine gdF ?_ | refine cdT ?_ | refine cdF ?_ | fail)
  refine reE ?_
  rfl⟩
instance fnRGBytes {n i m i2 m2 : Int} {l r : List Ent} {p q : List Hsh} {xs ys zs ws : List AV} {d1 d2 d3 d4 : Option Value} [hx : Ents xs l] [hy : Ents ys r] [hz : Hshs zs p] [hw : Hshs ws q] : Ans Tryz.prog GL 33 [.agg 9 [int n, .sl 2 xs d1, .sl 2 ys d2, .agg 3 [int i, int m, .sl 32 zs d3], .agg 3 [int i2, int m2, .sl 32 ws d4]]] (GapW ⟨n, l, r, ⟨i, m, p⟩, ⟨i2, m2, q⟩⟩) (str (gapB ⟨n, l, r, ⟨i, m, p⟩, ⟨i2, m2, q⟩⟩)) := ⟨fun hp => by
  obtain ⟨hl, hr, hn⟩ := hp
  dsimp only at hl hr hn
  refine spec_enter Tryz.func33 rfl Tryz.ntmps33 rfl (fun _ hs => ?_)
  repeat' (first | refine W ?_ | refine op2 ?_ | refine op6 ?_ | refine ob4 ?_ | refine ob6 ?_ | refine ob2 (fun _ => ?_) | intro _ | simp only [List.set] | refine gdT ?_ | refine gdF ?_ | refine cdT ?_ | refine cdF ?_ | fail)
  refine reE ?_
  rfl⟩
end Go.Proofs.YtkijoddconipoaaGreatDoor

namespace Go.Proofs.YtkijoddconipoaaGreatDoor
open Go Go.RowKit Tw Av
def rpS1 (s : Bs) : Bs := rsT 105 8 s false
def rpB1 (s : Bs) : Bool := riB 105 2000 s false
def rpS2 (s : Bs) : Bs := rsT 109 8 (rpS1 s) (rpB1 s)
def rpB2 (s : Bs) : Bool := riB 109 2000 (rpS1 s) (rpB1 s)
def rpL (s : Bs) : List Bs := raL 112 16 32 (rpS2 s) (rpB2 s)
def rpE (s : Bs) : Int := reE' (rsT 112 16777215 (rpS2 s) (rpB2 s)) (raB 112 16 32 (rpS2 s) (rpB2 s))
def rpV (s : Bs) : Prf := ⟨riI 105 2000 s false, riI 109 2000 (rpS1 s) (rpB1 s), (rpL s).map hOf⟩
def ok32 (t : Bs) : Bool := decide (t.length = 32)
def rpOk (s : Bs) : Bool := (rpL s).all ok32 && decide (rpE s = 0)
def rpdV (s : Bs) : Prf := if rpOk s = true then rpV s else zeroP
def rpdE (s : Bs) : Int := if rpOk s = true then 0 else 10
theorem ri1 {s : Bs} : rsT 105 8 s false = rpS1 s := rfl
theorem ri2 {s : Bs} : riB 105 2000 s false = rpB1 s := rfl
theorem ri3 {s : Bs} : rsT 109 8 (rpS1 s) (rpB1 s) = rpS2 s := rfl
theorem ri4 {s : Bs} : riB 109 2000 (rpS1 s) (rpB1 s) = rpB2 s := rfl
theorem ri5 {s : Bs} : raL 112 16 32 (rpS2 s) (rpB2 s) = rpL s := rfl
theorem rp_lens (s : Bs) : (rpS1 s).length ≤ s.length ∧ (rpS2 s).length ≤ s.length := by
  have h1 := (rsT_len 105 8 s false).1
  have h2 := (rsT_len 109 8 (rpS1 s) (rpB1 s)).1
  rw [ri1] at h1
  rw [ri3] at h2
  exact ⟨h1, by omega⟩
theorem all32_take {l : List Bs} {i : Nat} (hi : i < l.length) (h : (l.take i).all ok32 = true) (h2 : ok32 l[i] = true) : (l.take (i + 1)).all ok32 = true := by
  rw [List.take_succ_eq_append_getElem hi, List.all_append, h]
  simp [h2]
theorem all32_not {l : List Bs} {i : Nat} (hi : i < l.length) (h2 : ok32 l[i] = false) : l.all ok32 = false := by
  rw [List.all_eq_false]
  exact ⟨l[i], List.getElem_mem hi, by simp [h2]⟩
theorem raL_len' {c many most : Int} {s : Bs} {b : Bool} (h0 : 0 ≤ many) : ((raL c many most s b).length : Int) ≤ many := by
  unfold raL outA
  split
  · simpa using h0
  · rename_i h
    unfold badA at h
    by_cases hm : many < ((allX c most (rtT c 16777215 s b)).1.length : Int)
    · rw [decide_eq_true hm] at h
      simp at h
    · omega
theorem imp_pvar {a m : Int} : ImpC (.agg 3 [int a, int m, .lit (.slice none 0 0)]) (.agg 3 [int a, int m, .sl 32 [] (some (.slice none 0 0))]) := fun ok w cs h => by
  rw [RC] at h ⊢
  refine ⟨h.1, ?_⟩
  have h := h.2
  rw [RCs] at h ⊢
  obtain ⟨a1, b1, e1, f1, h⟩ := h
  refine ⟨a1, b1, e1, f1, ?_⟩
  rw [RCs] at h ⊢
  obtain ⟨a1, b1, e1, f1, h⟩ := h
  refine ⟨a1, b1, e1, f1, ?_⟩
  rw [RCs] at h ⊢
  obtain ⟨a1, b1, e1, f1, h⟩ := h
  exact ⟨a1, b1, e1, ImpC.nilT _ _ _ f1, h⟩
theorem imp_rp0 : Imp (.tup [.agg 3 [.lit (.int .i64 0), .lit (.int .i64 0), .lit (.slice none 0 0)], int 10]) (.tup [prfA zeroP, int 10]) := (inferInstance : ImpR _ (.tup [.agg 3 [int 0, int 0, .sl 32 [] none], int 10])).imp
theorem imp_rp {a m : Int} {xs : List AV} {v : Value} {e : Int} : Imp (.tup [.agg 3 [int a, int m, .sl 32 xs (some v)], int e]) (.tup [.agg 3 [int a, int m, .sl 32 xs none], int e]) := ImpR.imp
set_option maxHeartbeats 1000000 in
instance fnPRead {s : Bs} : Ans Tryz.prog GL 24 [str s] (s.length ≤ 1000000000) (.tup [prfA (rpdV s), int (rpdE s)]) := ⟨fun hl => by
  obtain ⟨l1, l2⟩ := rp_lens s
  have e1 : (rpS1 s).length = (rsT 105 8 s false).length := rfl
  have e2 : (rpS2 s).length = (rsT 109 8 (rsT 105 8 s false) (riB 105 2000 s false)).length := rfl
  refine spec_enter Tryz.func24 rfl Tryz.ntmps24 rfl (fun _ hs => ?_)
  repeat' (first | refine W ?_ | refine op2 ?_ | refine op6 ?_ | refine ob4 ?_ | refine ob6 ?_ | refine ob2 (fun _ => ?_) | intro _ | simp only [List.set] | refine gdT ?_ | refine gdF ?_ | refine cdT ?_ | refine cdF ?_ | fail)
  refine al_callK (args := [str s]) [] _ (by rw [hs]; exact tlvRead) (fun u m1 hh => ?_) (List.Perm.refl _)
  obtain ⟨gr, rfl, rfl⟩ := hh
  repeat' (first | refine W ?_ | refine op2 ?_ | refine op6 ?_ | refine ob4 ?_ | refine ob6 ?_ | refine ob2 (fun _ => ?_) | intro _ | simp only [List.set] | refine gdT ?_ | refine gdF ?_ | refine cdT ?_ | refine cdF ?_ | fail)
  rw [ri1, ri2, ri3, ri4, ri5]
  have hE : rpE s = reE' (rsT 112 16777215 (rpS2 s) (rpB2 s)) (raB 112 16 32 (rpS2 s) (rpB2 s)) := rfl
  have hV : rpV s = ⟨riI 105 2000 s false, riI 109 2000 (rpS1 s) (rpB1 s), (rpL s).map hOf⟩ := rfl
  have hK : rpOk s = ((rpL s).all ok32 && decide (rpE s = 0)) := rfl
  have hn := raL_len' (c := 112) (many := 16) (most := 32) (s := rpS2 s) (b := rpB2 s) (by decide)
  rw [ri5] at hn
  rw [rpdV, rpdE, hK, hV, hE]
  generalize rpL s = L at *
  generalize rsT 112 16777215 (rpS2 s) (rpB2 s) = S5 at *
  generalize raB 112 16 32 (rpS2 s) (rpB2 s) = B5 at *
  generalize riI 105 2000 s false = a at *
  generalize riI 109 2000 (rpS1 s) (rpB1 s) = m at *
  have hml : (L.map str).length = L.length := List.length_map _
  rename_i g2 g5
  refine ac_asV (g := g5) (v' := .agg 3 [int a, int m, .sl 32 [] (some (.slice none 0 0))]) imp_pvar ?_
  refine ac_st (fun ok w h => h.full 33 32 none 0) ?_
  refine ac_midB (α := {q : List Hsh × Value // L.all ok32 = true → q.1 = L.map hOf}) (fun _ => [(2, ptr g2), (4, ptr gr), (5, ptr g5), (6, int (if L.all ok32 = true then 0 else 10))])
    (fun q => [.var g5 52 (.agg 3 [int a, int m, .sl 32 (q.1.1.map hA) (some q.1.2)]), .var gr 130 (rdA S5 B5), .var g2 52 (.agg 3 [int 0, int 0, nils])]) ?_ (fun q => ?_)
  · refine ac_loop (α := Nat × Value) (fun q => [(2, ptr g2), (4, ptr gr), (5, ptr g5), (6, int 0), (19, .sl 1 (L.map str) none), (20, int L.length), (21, int q.1)])
      (fun q => [.tail 33 32 q.2, .var g5 52 (.agg 3 [int a, int m, .sl 32 (((L.take q.1).map hOf).map hA) (some q.2)]), .var gr 130 (rdA S5 B5), .var g2 52 (.agg 3 [int 0, int 0, nils])])
      (fun q => q.1 ≤ L.length ∧ (L.take q.1).all ok32 = true) (fun q => L.length - q.1) (0, .slice none 0 0) ⟨rfl, rfl, rfl, rfl, rfl, by rw [← hml]; rfl, rfl, trivial⟩ (List.Sublist.refl _) ⟨Nat.zero_le _, rfl⟩ ?_
    rintro ⟨i, v⟩ ⟨h1, h2⟩
    dsimp only at h1 h2 ⊢
    repeat' (first | refine W ?_ | refine op2 ?_ | refine op6 ?_ | refine ob4 ?_ | refine ob6 ?_ | refine ob2 (fun _ => ?_) | intro _ | simp only [List.set] | refine gdT ?_ | refine gdF ?_ | refine cdT ?_ | refine cdF ?_ | fail)
    refine ac_cond (fun hlt => ?_) (fun hlt => ?_)
    · have hil : i < L.length := by omega
      have hml2 : ((L.take i).map hOf).length ≤ 16 := by simp; omega
      repeat' (first | refine W ?_ | refine op2 ?_ | refine op6 ?_ | refine ob4 ?_ | refine ob6 ?_ | refine ob2 (fun _ => ?_) | intro _ | simp only [List.set] | refine gdT ?_ | refine gdF ?_ | refine cdT ?_ | refine cdF ?_ | fail)
      by_cases h32 : L[i].length = 32
      · rw [if_pos h32]
        repeat' (first | refine W ?_ | refine op2 ?_ | refine op6 ?_ | refine ob4 ?_ | refine ob6 ?_ | refine ob2 (fun _ => ?_) | intro _ | simp only [List.set] | refine gdT ?_ | refine gdF ?_ | refine cdT ?_ | refine cdF ?_ | fail)
        refine al_append (fun v' => ?_)
        repeat' (first | refine W ?_ | refine op2 ?_ | refine op6 ?_ | refine ob4 ?_ | refine ob6 ?_ | refine ob2 (fun _ => ?_) | intro _ | simp only [List.set] | refine gdT ?_ | refine gdF ?_ | refine cdT ?_ | refine cdF ?_ | fail)
        refine ae_round (i + 1, v') ⟨rfl, rfl, rfl, rfl, rfl, rfl, rfl, trivial⟩ ?_ ⟨hil, all32_take hil h2 (decide_eq_true h32)⟩ (by dsimp only; omega)
        dsimp only
        rw [List.take_succ_eq_append_getElem hil, List.map_append, List.map_append]
        exact List.Sublist.cons _ (List.Sublist.refl _)
      · rw [if_neg h32]
        repeat' (first | refine W ?_ | refine op2 ?_ | refine op6 ?_ | refine ob4 ?_ | refine ob6 ?_ | refine ob2 (fun _ => ?_) | intro _ | simp only [List.set] | refine gdT ?_ | refine gdF ?_ | refine cdT ?_ | refine cdF ?_ | fail)
        have hno := all32_not hil (show ok32 L[i] = false from decide_eq_false h32)
        refine ae_cut ⟨((L.take i).map hOf, v), fun h => by rw [hno] at h; cases h⟩ ⟨rfl, rfl, rfl, ?_, trivial⟩ ?_
        · rw [hno]
          rfl
        · repeat (first | exact List.nil_sublist _ | exact List.Sublist.refl _ | apply List.Sublist.cons_cons | apply List.Sublist.cons)
    · obtain rfl : i = L.length := by omega
      rw [List.take_length] at h2 ⊢
      repeat' (first | refine W ?_ | refine op2 ?_ | refine op6 ?_ | refine ob4 ?_ | refine ob6 ?_ | refine ob2 (fun _ => ?_) | intro _ | simp only [List.set] | refine gdT ?_ | refine gdF ?_ | refine cdT ?_ | refine cdF ?_ | fail)
      refine ae_cut ⟨(L.map hOf, v), fun _ => rfl⟩ ⟨rfl, rfl, rfl, ?_, trivial⟩ ?_
      · rw [h2]
        rfl
      · repeat (first | exact List.nil_sublist _ | exact List.Sublist.refl _ | apply List.Sublist.cons_cons | apply List.Sublist.cons)
  obtain ⟨⟨ps, v⟩, hq⟩ := q
  dsimp only at hq ⊢
  cases ha : L.all ok32
  · repeat' (first | refine W ?_ | refine op2 ?_ | refine op6 ?_ | refine ob4 ?_ | refine ob6 ?_ | refine ob2 (fun _ => ?_) | intro _ | simp only [List.set] | refine gdT ?_ | refine gdF ?_ | refine cdT ?_ | refine cdF ?_ | fail)
    refine reI ?_
    exact imp_rp0
  rw [hq ha]
  by_cases hE0 : reE' S5 B5 = 0
  · rw [decide_eq_true hE0]
    repeat' (first | refine W ?_ | refine op2 ?_ | refine op6 ?_ | refine ob4 ?_ | refine ob6 ?_ | refine ob2 (fun _ => ?_) | intro _ | simp only [List.set] | refine gdT ?_ | refine gdF ?_ | refine cdT ?_ | refine cdF ?_ | fail)
    refine reI ?_
    exact imp_rp
  · rw [decide_eq_false hE0]
    repeat' (first | refine W ?_ | refine op2 ?_ | refine op6 ?_ | refine ob4 ?_ | refine ob6 ?_ | refine ob2 (fun _ => ?_) | intro _ | simp only [List.set] | refine gdT ?_ | refine gdF ?_ | refine cdT ?_ | refine cdF ?_ | fail)
    refine reI ?_
    exact imp_rp0⟩
end Go.Proofs.YtkijoddconipoaaGreatDoor

namespace Go.Proofs.YtkijoddconipoaaGreatDoor
open Go Go.RowKit Tw Av
theorem imp_rrp0 : Imp (.tup [.agg 3 [.lit (.int .i64 0), .lit (.int .i64 0), .lit (.slice none 0 0)], boo false]) (.tup [prfA zeroP, boo false]) := (inferInstance : ImpR _ (.tup [.agg 3 [int 0, int 0, .sl 32 [] none], boo false])).imp
theorem imp_rrp {a m : Int} {xs : List AV} {v : Value} {e : Bool} : Imp (.tup [.agg 3 [int a, int m, .sl 32 xs (some v)], boo e]) (.tup [.agg 3 [int a, int m, .sl 32 xs none], boo e]) := ImpR.imp
set_option maxHeartbeats 1000000 in
instance fnRpread {s : Bs} : Ans Tryz.prog GL 74 [str s] (s.length ≤ 1000000000) (.tup [prfA (rpdV s), boo (rpOk s)]) := ⟨fun hl => by
  obtain ⟨l1, l2⟩ := rp_lens s
  have e1 : (rpS1 s).length = (rsT 105 8 s false).length := rfl
  have e2 : (rpS2 s).length = (rsT 109 8 (rsT 105 8 s false) (riB 105 2000 s false)).length := rfl
  refine spec_enter Tryz.func74 rfl Tryz.ntmps74 rfl (fun _ hs => ?_)
  repeat' (first | refine W ?_ | refine op2 ?_ | refine op6 ?_ | refine ob4 ?_ | refine ob6 ?_ | refine ob2 (fun _ => ?_) | intro _ | simp only [List.set] | refine gdT ?_ | refine gdF ?_ | refine cdT ?_ | refine cdF ?_ | fail)
  rw [ri1, ri2, ri3, ri4, ri5]
  have hE : rpE s = reE' (rsT 112 16777215 (rpS2 s) (rpB2 s)) (raB 112 16 32 (rpS2 s) (rpB2 s)) := rfl
  have hV : rpV s = ⟨riI 105 2000 s false, riI 109 2000 (rpS1 s) (rpB1 s), (rpL s).map hOf⟩ := rfl
  have hK : rpOk s = ((rpL s).all ok32 && decide (rpE s = 0)) := rfl
  have hn := raL_len' (c := 112) (many := 16) (most := 32) (s := rpS2 s) (b := rpB2 s) (by decide)
  rw [ri5] at hn
  rw [rpdV, hK, hV, hE]
  generalize rpL s = L at *
  generalize rsT 112 16777215 (rpS2 s) (rpB2 s) = S5 at *
  generalize raB 112 16 32 (rpS2 s) (rpB2 s) = B5 at *
  generalize riI 105 2000 s false = a at *
  generalize riI 109 2000 (rpS1 s) (rpB1 s) = m at *
  have hml : (L.map str).length = L.length := List.length_map _
  by_cases hE0 : reE' S5 B5 = 0
  rotate_left
  · rw [decide_eq_false hE0, Bool.and_false]
    repeat' (first | refine W ?_ | refine op2 ?_ | refine op6 ?_ | refine ob4 ?_ | refine ob6 ?_ | refine ob2 (fun _ => ?_) | intro _ | simp only [List.set] | refine gdT ?_ | refine gdF ?_ | refine cdT ?_ | refine cdF ?_ | fail)
    refine reI ?_
    exact imp_rrp0
  rw [decide_eq_true hE0, Bool.and_true]
  repeat' (first | refine W ?_ | refine op2 ?_ | refine op6 ?_ | refine ob4 ?_ | refine ob6 ?_ | refine ob2 (fun _ => ?_) | intro _ | simp only [List.set] | refine gdT ?_ | refine gdF ?_ | refine cdT ?_ | refine cdF ?_ | fail)
  rename_i g2 gr g5
  refine ac_asV (g := g5) (v' := .agg 3 [int a, int m, .sl 32 [] (some (.slice none 0 0))]) imp_pvar ?_
  refine ac_st (fun ok w h => h.full 33 32 none 0) ?_
  refine ac_loop (α := Nat × Value) (fun q => [(2, ptr g2), (5, ptr g5), (6, .sl 1 (L.map str) none), (7, int q.1)])
      (fun q => [.tail 33 32 q.2, .var g5 52 (.agg 3 [int a, int m, .sl 32 (((L.take q.1).map hOf).map hA) (some q.2)]), .var g2 52 (.agg 3 [int 0, int 0, nils])])
      (fun q => q.1 ≤ L.length ∧ (L.take q.1).all ok32 = true) (fun q => L.length - q.1) (0, .slice none 0 0) ⟨rfl, rfl, rfl, rfl, trivial⟩ ?_ ⟨Nat.zero_le _, rfl⟩ ?_
  focus
    repeat (first | exact List.nil_sublist _ | exact List.Sublist.refl _ | apply List.Sublist.cons_cons | apply List.Sublist.cons)
  rintro ⟨i, v⟩ ⟨h1, h2⟩
  dsimp only at h1 h2 ⊢
  repeat' (first | refine W ?_ | refine op2 ?_ | refine op6 ?_ | refine ob4 ?_ | refine ob6 ?_ | refine ob2 (fun _ => ?_) | intro _ | simp only [List.set] | refine gdT ?_ | refine gdF ?_ | refine cdT ?_ | refine cdF ?_ | fail)
  refine ac_cond (fun hlt => ?_) (fun hlt => ?_)
  rotate_left
  · obtain rfl : i = L.length := by omega
    rw [List.take_length] at h2 ⊢
    rw [h2]
    repeat' (first | refine W ?_ | refine op2 ?_ | refine op6 ?_ | refine ob4 ?_ | refine ob6 ?_ | refine ob2 (fun _ => ?_) | intro _ | simp only [List.set] | refine gdT ?_ | refine gdF ?_ | refine cdT ?_ | refine cdF ?_ | fail)
    refine reI ?_
    exact imp_rrp
  have hil : i < L.length := by omega
  have hml2 : ((L.take i).map hOf).length ≤ 16 := by simp; omega
  repeat' (first | refine W ?_ | refine op2 ?_ | refine op6 ?_ | refine ob4 ?_ | refine ob6 ?_ | refine ob2 (fun _ => ?_) | intro _ | simp only [List.set] | refine gdT ?_ | refine gdF ?_ | refine cdT ?_ | refine cdF ?_ | fail)
  by_cases h32 : L[i].length = 32
  rotate_left
  · have hno := all32_not hil (show ok32 L[i] = false from decide_eq_false h32)
    rw [hno]
    repeat' (first | refine W ?_ | refine op2 ?_ | refine op6 ?_ | refine ob4 ?_ | refine ob6 ?_ | refine ob2 (fun _ => ?_) | intro _ | simp only [List.set] | refine gdT ?_ | refine gdF ?_ | refine cdT ?_ | refine cdF ?_ | fail)
    refine reI ?_
    exact imp_rrp0
  repeat' (first | refine W ?_ | refine op2 ?_ | refine op6 ?_ | refine ob4 ?_ | refine ob6 ?_ | refine ob2 (fun _ => ?_) | intro _ | simp only [List.set] | refine gdT ?_ | refine gdF ?_ | refine cdT ?_ | refine cdF ?_ | fail)
  rename_i g8
  refine ac_loop (α := Nat) (fun k => [(2, ptr g2), (5, ptr g5), (6, .sl 1 (L.map str) none), (7, int i), (8, ptr g8), (9, int k)])
      (fun k => [.var g8 33 (.agg 32 ((layB L[i] k).map u8A)), .tail 33 32 v, .var g5 52 (.agg 3 [int a, int m, .sl 32 (((L.take i).map hOf).map hA) (some v)]), .var g2 52 (.agg 3 [int 0, int 0, nils])])
      (fun k => k ≤ 32) (fun k => 32 - k) 0 ⟨rfl, rfl, rfl, rfl, rfl, rfl, trivial⟩ (List.Sublist.refl _) (Nat.zero_le _) ?_
  intro k hk
  repeat' (first | refine W ?_ | refine op2 ?_ | refine op6 ?_ | refine ob4 ?_ | refine ob6 ?_ | refine ob2 (fun _ => ?_) | intro _ | simp only [List.set] | refine gdT ?_ | refine gdF ?_ | refine cdT ?_ | refine cdF ?_ | fail)
  refine ac_cond (fun hlt2 => ?_) (fun hlt2 => ?_)
  · have hkl : k < 32 := by omega
    have hkx : k < L[i].length := by omega
    repeat' (first | refine W ?_ | refine op2 ?_ | refine op6 ?_ | refine ob4 ?_ | refine ob6 ?_ | refine ob2 (fun _ => ?_) | intro _ | simp only [List.set] | refine gdT ?_ | refine gdF ?_ | refine cdT ?_ | refine cdF ?_ | fail)
    refine al_idxS k ?_ (List.getElem?_eq_getElem hkx)
    repeat' (first | refine W ?_ | refine op2 ?_ | refine op6 ?_ | refine ob4 ?_ | refine ob6 ?_ | refine ob2 (fun _ => ?_) | intro _ | simp only [List.set] | refine gdT ?_ | refine gdF ?_ | refine cdT ?_ | refine cdF ?_ | fail)
    refine al_idxA k ?_
    refine al_storeE (j := k) (ps := (layB L[i] k).map u8A) (by simp only [List.length_map]; rw [layB_len h32 hk]; exact hkl) ?_
    repeat' (first | refine W ?_ | refine op2 ?_ | refine op6 ?_ | refine ob4 ?_ | refine ob6 ?_ | refine ob2 (fun _ => ?_) | intro _ | simp only [List.set] | refine gdT ?_ | refine gdF ?_ | refine cdT ?_ | refine cdF ?_ | fail)
    rw [show ((layB L[i] k).map u8A).set k (u8A (L[i])[k]) = ((layB L[i] k).set k (L[i])[k]).map u8A by rw [List.map_set], layB_next h32 hkl]
    exact ae_round (k + 1) ⟨rfl, rfl, rfl, rfl, rfl, rfl, trivial⟩ (List.Sublist.refl _) hkl (by omega)
  · obtain rfl : k = 32 := by omega
    have hA1 : AV.agg 32 ((layB L[i] 32).map u8A) = hA (hOf L[i]) := by rw [layB_all h32, hA, hOf_l h32]
    rw [hA1]
    repeat' (first | refine W ?_ | refine op2 ?_ | refine op6 ?_ | refine ob4 ?_ | refine ob6 ?_ | refine ob2 (fun _ => ?_) | intro _ | simp only [List.set] | refine gdT ?_ | refine gdF ?_ | refine cdT ?_ | refine cdF ?_ | fail)
    refine al_append (fun v' => ?_)
    repeat' (first | refine W ?_ | refine op2 ?_ | refine op6 ?_ | refine ob4 ?_ | refine ob6 ?_ | refine ob2 (fun _ => ?_) | intro _ | simp only [List.set] | refine gdT ?_ | refine gdF ?_ | refine cdT ?_ | refine cdF ?_ | fail)
    refine ae_round (i + 1, v') ⟨rfl, rfl, rfl, rfl, trivial⟩ ?_ ⟨hil, all32_take hil h2 (decide_eq_true h32)⟩ (by dsimp only; omega)
    dsimp only
    rw [List.take_succ_eq_append_getElem hil, List.map_append, List.map_append]
    exact List.Sublist.cons _ (List.Sublist.refl _)⟩
instance fnRPRead {s : Bs} : Ans Tryz.prog GL 25 [str s] (s.length ≤ 1000000000) (.tup [prfA (rpdV s), int (rpdE s)]) := ⟨fun hl => by
  refine spec_enter Tryz.func25 rfl Tryz.ntmps25 rfl (fun _ hs => ?_)
  repeat' (first | refine W ?_ | refine op2 ?_ | refine op6 ?_ | refine ob4 ?_ | refine ob6 ?_ | refine ob2 (fun _ => ?_) | intro _ | simp only [List.set] | refine gdT ?_ | refine gdF ?_ | refine cdT ?_ | refine cdF ?_ | fail)
  rw [rpdV, rpdE]
  cases h : rpOk s
  · repeat' (first | refine W ?_ | refine op2 ?_ | refine op6 ?_ | refine ob4 ?_ | refine ob6 ?_ | refine ob2 (fun _ => ?_) | intro _ | simp only [List.set] | refine gdT ?_ | refine gdF ?_ | refine cdT ?_ | refine cdF ?_ | fail)
    refine reI ?_
    exact imp_rp0
  · repeat' (first | refine W ?_ | refine op2 ?_ | refine op6 ?_ | refine ob4 ?_ | refine ob6 ?_ | refine ob2 (fun _ => ?_) | intro _ | simp only [List.set] | refine gdT ?_ | refine gdF ?_ | refine cdT ?_ | refine cdF ?_ | fail)
    refine reE ?_
    rfl⟩
end Go.Proofs.YtkijoddconipoaaGreatDoor

namespace Go.Proofs.YtkijoddconipoaaGreatDoor
open Go Go.RowKit Tw Av
def sdX (s : Bs) (b : Bool) : List Bs := raL 101 2 4000 s b
def sdS1 (s : Bs) (b : Bool) : Bs := rsT 101 16777215 s b
def sdB1 (s : Bs) (b : Bool) : Bool := raB 101 2 4000 s b
def sdT (s : Bs) (b : Bool) : Bs := rtT 80 4000 (sdS1 s b) (sdB1 s b)
def sdS2 (s : Bs) (b : Bool) : Bs := rsT 80 4000 (sdS1 s b) (sdB1 s b)
def sdB2 (s : Bs) (b : Bool) : Bool := rbT 80 4000 (sdS1 s b) (sdB1 s b)
def sdOk (s : Bs) (b : Bool) : Bool := decide (rpdE (sdT s b) = 0) && (!sdB2 s b && decide ((sdX s b).length ≠ 1))
def sdE : List Bs → List Ent
  | [k, v] => [⟨k, v⟩]
  | _ => []
def sdL (s : Bs) (b : Bool) : List Ent := if sdOk s b = true then sdE (sdX s b) else []
def sdP (s : Bs) (b : Bool) : Prf := if sdOk s b = true then rpdV (sdT s b) else zeroP
theorem rj1 {s : Bs} {b : Bool} : rsT 101 16777215 s b = sdS1 s b := rfl
theorem rj2 {s : Bs} {b : Bool} : raB 101 2 4000 s b = sdB1 s b := rfl
theorem rj3 {s : Bs} {b : Bool} : rtT 80 4000 (sdS1 s b) (sdB1 s b) = sdT s b := rfl
theorem rj4 {s : Bs} {b : Bool} : rsT 80 4000 (sdS1 s b) (sdB1 s b) = sdS2 s b := rfl
theorem rj5 {s : Bs} {b : Bool} : rbT 80 4000 (sdS1 s b) (sdB1 s b) = sdB2 s b := rfl
theorem rj6 {s : Bs} {b : Bool} : raL 101 2 4000 s b = sdX s b := rfl
theorem sd_lens (s : Bs) (b : Bool) : (sdS1 s b).length ≤ s.length ∧ (sdS2 s b).length ≤ s.length ∧ (sdT s b).length ≤ 4000 := by
  have h1 := (rsT_len 101 16777215 s b).1
  have h2 := (rsT_len 80 4000 (sdS1 s b) (sdB1 s b)).1
  have h3 := (rtT_len 80 4000 (sdS1 s b) (sdB1 s b)).2 (by decide)
  rw [rj1] at h1
  rw [rj4] at h2
  rw [rj3] at h3
  exact ⟨h1, by omega, by omega⟩
theorem imp_sd0 {e : Bool} : Imp (.tup [.lit (.slice none 0 0), .agg 3 [.lit (.int .i64 0), .lit (.int .i64 0), .lit (.slice none 0 0)], boo e]) (.tup [.sl 2 [] none, prfA zeroP, boo e]) := (inferInstance : ImpR _ (.tup [.sl 2 [] none, .agg 3 [int 0, int 0, .sl 32 [] none], boo e])).imp
theorem imp_sd1 {e : Bool} {x : AV} : Imp (.tup [.lit (.slice none 0 0), x, boo e]) (.tup [.sl 2 [] none, x, boo e]) := ImpR.imp
set_option maxHeartbeats 1000000 in
instance fnReadSide {g : Nat} {s : Bs} {b : Bool} : AnsM Tryz.prog GL 75 g [] 130 (rdA s b) (s.length ≤ 1000000000) (.tup [.sl 2 ((sdL s b).map entA) none, prfA (sdP s b), boo (sdOk s b)]) (rdA (sdS2 s b) (sdB2 s b)) := ⟨fun hl => by
  obtain ⟨l1, l2, l3⟩ := sd_lens s b
  have e1 : (sdS1 s b).length = (rsT 101 16777215 s b).length := rfl
  have e2 : (sdT s b).length = (rtT 80 4000 (rsT 101 16777215 s b) (raB 101 2 4000 s b)).length := rfl
  refine spec_enter Tryz.func75 rfl Tryz.ntmps75 rfl (fun _ hs => ?_)
  repeat' (first | refine W ?_ | refine op2 ?_ | refine op6 ?_ | refine ob4 ?_ | refine ob6 ?_ | refine ob2 (fun _ => ?_) | intro _ | simp only [List.set] | refine gdT ?_ | refine gdF ?_ | refine cdT ?_ | refine cdF ?_ | fail)
  rw [rj1, rj2, rj3, rj4, rj5, rj6]
  have hX := raL_len' (c := 101) (many := 2) (most := 4000) (s := s) (b := b) (by decide)
  rw [rj6] at hX
  rw [sdL, sdP]
  have hO : sdOk s b = (decide (rpdE (sdT s b) = 0) && (!sdB2 s b && decide ((sdX s b).length ≠ 1))) := rfl
  rw [hO]
  generalize sdX s b = X at *
  generalize sdT s b = t at *
  generalize sdS2 s b = S2 at *
  generalize sdB2 s b = B2 at *
  have hml : (X.map str).length = X.length := List.length_map _
  by_cases hE : rpdE t = 0
  rotate_left
  · rw [decide_eq_false hE, Bool.false_and]
    repeat' (first | refine W ?_ | refine op2 ?_ | refine op6 ?_ | refine ob4 ?_ | refine ob6 ?_ | refine ob2 (fun _ => ?_) | intro _ | simp only [List.set] | refine gdT ?_ | refine gdF ?_ | refine cdT ?_ | refine cdF ?_ | fail)
    refine reIKm (.tup [.sl 2 [] none, prfA zeroP, boo false]) [.var g 130 (rdA S2 B2)] ?_ ⟨rfl, rfl⟩ ?_
    focus
      exact imp_sd0
    repeat (first | exact List.nil_sublist _ | exact List.Sublist.refl _ | apply List.Sublist.cons_cons | apply List.Sublist.cons)
  rw [decide_eq_true hE, Bool.true_and]
  repeat' (first | refine W ?_ | refine op2 ?_ | refine op6 ?_ | refine ob4 ?_ | refine ob6 ?_ | refine ob2 (fun _ => ?_) | intro _ | simp only [List.set] | refine gdT ?_ | refine gdF ?_ | refine cdT ?_ | refine cdF ?_ | fail)
  cases B2
  rotate_left
  · repeat' (first | refine W ?_ | refine op2 ?_ | refine op6 ?_ | refine ob4 ?_ | refine ob6 ?_ | refine ob2 (fun _ => ?_) | intro _ | simp only [List.set] | refine gdT ?_ | refine gdF ?_ | refine cdT ?_ | refine cdF ?_ | fail)
    refine reIKm (.tup [.sl 2 [] none, prfA zeroP, boo false]) [.var g 130 (rdA S2 true)] ?_ ⟨rfl, rfl⟩ ?_
    focus
      exact imp_sd0
    repeat (first | exact List.nil_sublist _ | exact List.Sublist.refl _ | apply List.Sublist.cons_cons | apply List.Sublist.cons)
  repeat' (first | refine W ?_ | refine op2 ?_ | refine op6 ?_ | refine ob4 ?_ | refine ob6 ?_ | refine ob2 (fun _ => ?_) | intro _ | simp only [List.set] | refine gdT ?_ | refine gdF ?_ | refine cdT ?_ | refine cdF ?_ | fail)
  rcases X with _ | ⟨k, _ | ⟨v, _ | ⟨w, X⟩⟩⟩
  · repeat' (first | refine W ?_ | refine op2 ?_ | refine op6 ?_ | refine ob4 ?_ | refine ob6 ?_ | refine ob2 (fun _ => ?_) | intro _ | simp only [List.set] | refine gdT ?_ | refine gdF ?_ | refine cdT ?_ | refine cdF ?_ | fail)
    refine reIKm (.tup [.sl 2 [] none, prfA (rpdV t), boo true]) [.var g 130 (rdA S2 false)] ?_ ⟨rfl, rfl⟩ ?_
    focus
      exact imp_sd1
    repeat (first | exact List.nil_sublist _ | exact List.Sublist.refl _ | apply List.Sublist.cons_cons | apply List.Sublist.cons)
  · repeat' (first | refine W ?_ | refine op2 ?_ | refine op6 ?_ | refine ob4 ?_ | refine ob6 ?_ | refine ob2 (fun _ => ?_) | intro _ | simp only [List.set] | refine gdT ?_ | refine gdF ?_ | refine cdT ?_ | refine cdF ?_ | fail)
    refine reIKm (.tup [.sl 2 [] none, prfA zeroP, boo false]) [.var g 130 (rdA S2 false)] ?_ ⟨rfl, rfl⟩ ?_
    focus
      exact imp_sd0
    repeat (first | exact List.nil_sublist _ | exact List.Sublist.refl _ | apply List.Sublist.cons_cons | apply List.Sublist.cons)
  · repeat' (first | refine W ?_ | refine op2 ?_ | refine op6 ?_ | refine ob4 ?_ | refine ob6 ?_ | refine ob2 (fun _ => ?_) | intro _ | simp only [List.set] | refine gdT ?_ | refine gdF ?_ | refine cdT ?_ | refine cdF ?_ | fail)
    refine reIKm (.tup [.sl 2 [.agg 2 [str k, str v]] none, prfA (rpdV t), boo true]) [.var g 130 (rdA S2 false)] ?_ ⟨rfl, rfl⟩ ?_
    focus
      exact fun _ _ _ h => h
    repeat (first | exact List.nil_sublist _ | exact List.Sublist.refl _ | apply List.Sublist.cons_cons | apply List.Sublist.cons)
  · simp at hX
    omega⟩
def rgS1 (s : Bs) : Bs := rsT 109 8 s false
def rgB1 (s : Bs) : Bool := riB 109 2000 s false
def rgS2 (s : Bs) : Bs := sdS2 (rgS1 s) (rgB1 s)
def rgB2 (s : Bs) : Bool := sdB2 (rgS1 s) (rgB1 s)
def rgE (s : Bs) : Int := reE' (sdS2 (rgS2 s) (rgB2 s)) (sdB2 (rgS2 s) (rgB2 s))
def rgV (s : Bs) : Gp := ⟨riI 109 2000 s false, sdL (rgS1 s) (rgB1 s), sdL (rgS2 s) (rgB2 s), sdP (rgS1 s) (rgB1 s), sdP (rgS2 s) (rgB2 s)⟩
def rgOk (s : Bs) : Bool := sdOk (rgS1 s) (rgB1 s) && (sdOk (rgS2 s) (rgB2 s) && decide (rgE s = 0))
def rgdV (s : Bs) : Gp := if rgOk s = true then rgV s else zeroG
def rgdE (s : Bs) : Int := if rgOk s = true then 0 else 10
theorem rk1 {s : Bs} : rsT 109 8 s false = rgS1 s := rfl
theorem rk2 {s : Bs} : riB 109 2000 s false = rgB1 s := rfl
theorem rk3 {s : Bs} : sdS2 (rgS1 s) (rgB1 s) = rgS2 s := rfl
theorem rk4 {s : Bs} : sdB2 (rgS1 s) (rgB1 s) = rgB2 s := rfl
theorem rg_lens (s : Bs) : (rgS1 s).length ≤ s.length ∧ (rgS2 s).length ≤ s.length := by
  have h1 := (rsT_len 109 8 s false).1
  have h2 := (sd_lens (rgS1 s) (rgB1 s)).2.1
  rw [rk1] at h1
  rw [rk3] at h2
  exact ⟨h1, by omega⟩
theorem imp_rg0 : Imp (.tup [.agg 9 [.lit (.int .i64 0), .lit (.slice none 0 0), .lit (.slice none 0 0), .agg 3 [.lit (.int .i64 0), .lit (.int .i64 0), .lit (.slice none 0 0)], .agg 3 [.lit (.int .i64 0), .lit (.int .i64 0), .lit (.slice none 0 0)]], int 10]) (.tup [gpA zeroG, int 10]) :=
  (inferInstance : ImpR _ (.tup [.agg 9 [int 0, .sl 2 [] none, .sl 2 [] none, .agg 3 [int 0, int 0, .sl 32 [] none], .agg 3 [int 0, int 0, .sl 32 [] none]], int 10])).imp
set_option maxHeartbeats 1000000 in
instance fnReadGap {s : Bs} : Ans Tryz.prog GL 26 [str s] (s.length ≤ 1000000000) (.tup [gpA (rgdV s), int (rgdE s)]) := ⟨fun hl => by
  obtain ⟨l1, l2⟩ := rg_lens s
  have e1 : (rgS1 s).length = (rsT 109 8 s false).length := rfl
  have e2 : (rgS2 s).length = (sdS2 (rsT 109 8 s false) (riB 109 2000 s false)).length := rfl
  refine spec_enter Tryz.func26 rfl Tryz.ntmps26 rfl (fun _ hs => ?_)
  repeat' (first | refine W ?_ | refine op2 ?_ | refine op6 ?_ | refine ob4 ?_ | refine ob6 ?_ | refine ob2 (fun _ => ?_) | intro _ | simp only [List.set] | refine gdT ?_ | refine gdF ?_ | refine cdT ?_ | refine cdF ?_ | fail)
  refine al_callK (args := [str s]) [] _ (by rw [hs]; exact tlvRead) (fun u m1 hh => ?_) (List.Perm.refl _)
  obtain ⟨gr, rfl, rfl⟩ := hh
  repeat' (first | refine W ?_ | refine op2 ?_ | refine op6 ?_ | refine ob4 ?_ | refine ob6 ?_ | refine ob2 (fun _ => ?_) | intro _ | simp only [List.set] | refine gdT ?_ | refine gdF ?_ | refine cdT ?_ | refine cdF ?_ | fail)
  rw [rk1, rk2, rk3, rk4]
  have hE : rgE s = reE' (sdS2 (rgS2 s) (rgB2 s)) (sdB2 (rgS2 s) (rgB2 s)) := rfl
  have hV : rgV s = ⟨riI 109 2000 s false, sdL (rgS1 s) (rgB1 s), sdL (rgS2 s) (rgB2 s), sdP (rgS1 s) (rgB1 s), sdP (rgS2 s) (rgB2 s)⟩ := rfl
  have hK : rgOk s = (sdOk (rgS1 s) (rgB1 s) && (sdOk (rgS2 s) (rgB2 s) && decide (rgE s = 0))) := rfl
  rw [rgdV, rgdE, hK, hV, hE]
  cases h1 : sdOk (rgS1 s) (rgB1 s)
  · repeat' (first | refine W ?_ | refine op2 ?_ | refine op6 ?_ | refine ob4 ?_ | refine ob6 ?_ | refine ob2 (fun _ => ?_) | intro _ | simp only [List.set] | refine gdT ?_ | refine gdF ?_ | refine cdT ?_ | refine cdF ?_ | fail)
    refine reI ?_
    exact imp_rg0
  cases h2 : sdOk (rgS2 s) (rgB2 s)
  · repeat' (first | refine W ?_ | refine op2 ?_ | refine op6 ?_ | refine ob4 ?_ | refine ob6 ?_ | refine ob2 (fun _ => ?_) | intro _ | simp only [List.set] | refine gdT ?_ | refine gdF ?_ | refine cdT ?_ | refine cdF ?_ | fail)
    refine reI ?_
    exact imp_rg0
  repeat' (first | refine W ?_ | refine op2 ?_ | refine op6 ?_ | refine ob4 ?_ | refine ob6 ?_ | refine ob2 (fun _ => ?_) | intro _ | simp only [List.set] | refine gdT ?_ | refine gdF ?_ | refine cdT ?_ | refine cdF ?_ | fail)
  by_cases h3 : reE' (sdS2 (rgS2 s) (rgB2 s)) (sdB2 (rgS2 s) (rgB2 s)) = 0
  · rw [decide_eq_true h3]
    repeat' (first | refine W ?_ | refine op2 ?_ | refine op6 ?_ | refine ob4 ?_ | refine ob6 ?_ | refine ob2 (fun _ => ?_) | intro _ | simp only [List.set] | refine gdT ?_ | refine gdF ?_ | refine cdT ?_ | refine cdF ?_ | fail)
    refine reE ?_
    rfl
  · rw [decide_eq_false h3]
    repeat' (first | refine W ?_ | refine op2 ?_ | refine op6 ?_ | refine ob4 ?_ | refine ob6 ?_ | refine ob2 (fun _ => ?_) | intro _ | simp only [List.set] | refine gdT ?_ | refine gdF ?_ | refine cdT ?_ | refine cdF ?_ | fail)
    refine reI ?_
    exact imp_rg0⟩
class RgSl (a : AV) (l : List Ent) : Prop where
  imp : ImpT a (.sl 2 (l.map entA) none)
theorem imp_rgv {n : Int} {a b p q : AV} {l r : List Ent} [h1 : RgSl a l] [h2 : RgSl b r] : Imp (.tup [.agg 9 [int n, a, b, p, q], int 0]) (.tup [.agg 9 [int n, .sl 2 (l.map entA) none, .sl 2 (r.map entA) none, p, q], int 0]) :=
  have := h1.imp
  have := h2.imp
  ImpR.imp
instance : RgSl (.lit (.slice none 0 0)) [] := ⟨(inferInstance : ImpT _ (.sl 2 [] none))⟩
instance {k v : Bs} : RgSl (.sl 2 [.agg 2 [str k, str v]] none) [⟨k, v⟩] := ⟨(inferInstance : ImpT _ (.sl 2 [.agg 2 [str k, str v]] none))⟩
theorem sdB2_bad {s : Bs} : sdB2 s true = true := by
  have h1 : sdB1 s true = true := by
    unfold sdB1 raB badA rbT
    rw [rbT_bad]
    rfl
  unfold sdB2 rbT
  rw [h1, rbT_bad]
  rfl
theorem reE_bad {s : Bs} {b : Bool} (h : reE' s b = 0) : b = false := by
  cases b
  · rfl
  · unfold reE' at h
    rw [if_pos (.inl rfl)] at h
    cases h
theorem rpdE_ok {s : Bs} : decide (rpdE s = 0) = rpOk s := by
  unfold rpdE
  cases rpOk s <;> rfl
set_option maxHeartbeats 2000000 in
instance fnRReadGap {s : Bs} : Ans Tryz.prog GL 27 [str s] (s.length ≤ 1000000000) (.tup [gpA (rgdV s), int (rgdE s)]) := ⟨fun hl => by
  obtain ⟨l1, l2⟩ := rg_lens s
  obtain ⟨l3, l4, l5⟩ := sd_lens (rgS1 s) (rgB1 s)
  obtain ⟨l6, l7, l8⟩ := sd_lens (rgS2 s) (rgB2 s)
  have f1 : rsT 109 8 s false = rgS1 s := rfl
  have e1 : (rgS1 s).length = (rsT 109 8 s false).length := rfl
  have e2 : (sdS1 (rgS1 s) (rgB1 s)).length = (rsT 101 16777215 (rsT 109 8 s false) (riB 109 2000 s false)).length := rfl
  have e3 : (rgS2 s).length = (rsT 80 4000 (rsT 101 16777215 (rsT 109 8 s false) (riB 109 2000 s false)) (raB 101 2 4000 (rsT 109 8 s false) (riB 109 2000 s false))).length := rfl
  have e4 : (sdS1 (rgS2 s) (rgB2 s)).length = (rsT 101 16777215 (rsT 80 4000 (rsT 101 16777215 (rsT 109 8 s false) (riB 109 2000 s false)) (raB 101 2 4000 (rsT 109 8 s false) (riB 109 2000 s false))) (rbT 80 4000 (rsT 101 16777215 (rsT 109 8 s false) (riB 109 2000 s false)) (raB 101 2 4000 (rsT 109 8 s false) (riB 109 2000 s false)))).length := rfl
  refine spec_enter Tryz.func27 rfl Tryz.ntmps27 rfl (fun _ hs => ?_)
  repeat' (first | refine W ?_ | refine op2 ?_ | refine op6 ?_ | refine ob4 ?_ | refine ob6 ?_ | refine ob2 (fun _ => ?_) | intro _ | simp only [List.set] | refine gdT ?_ | refine gdF ?_ | refine cdT ?_ | refine cdF ?_ | fail)
  rw [rk1, rk2, rj1 (s := rgS1 s), rj2 (s := rgS1 s), rj3 (s := rgS1 s), rj4 (s := rgS1 s), rj5 (s := rgS1 s), rj6 (s := rgS1 s), rk3, rk4, rj1 (s := rgS2 s), rj2 (s := rgS2 s), rj3 (s := rgS2 s), rj4 (s := rgS2 s), rj5 (s := rgS2 s), rj6 (s := rgS2 s)]
  have hE : rgE s = reE' (sdS2 (rgS2 s) (rgB2 s)) (sdB2 (rgS2 s) (rgB2 s)) := rfl
  have hV : rgV s = ⟨riI 109 2000 s false, sdL (rgS1 s) (rgB1 s), sdL (rgS2 s) (rgB2 s), sdP (rgS1 s) (rgB1 s), sdP (rgS2 s) (rgB2 s)⟩ := rfl
  have hK : rgOk s = (sdOk (rgS1 s) (rgB1 s) && (sdOk (rgS2 s) (rgB2 s) && decide (rgE s = 0))) := rfl
  rw [rgdV, rgdE, hK, hV, hE]
  by_cases h3 : reE' (sdS2 (rgS2 s) (rgB2 s)) (sdB2 (rgS2 s) (rgB2 s)) = 0
  rotate_left
  · rw [decide_eq_false h3, Bool.and_false, Bool.and_false]
    repeat' (first | refine W ?_ | refine op2 ?_ | refine op6 ?_ | refine ob4 ?_ | refine ob6 ?_ | refine ob2 (fun _ => ?_) | intro _ | simp only [List.set] | refine gdT ?_ | refine gdF ?_ | refine cdT ?_ | refine cdF ?_ | fail)
    refine reI ?_
    exact imp_rg0
  have b2 : sdB2 (rgS2 s) (rgB2 s) = false := reE_bad h3
  have b1 : sdB2 (rgS1 s) (rgB1 s) = false := by
    rw [rk4]
    cases hb : rgB2 s
    · rfl
    · rw [hb, sdB2_bad] at b2
      cases b2
  have o1 : sdOk (rgS1 s) (rgB1 s) = (rpOk (sdT (rgS1 s) (rgB1 s)) && decide ((sdX (rgS1 s) (rgB1 s)).length ≠ 1)) := by
    unfold sdOk
    rw [rpdE_ok, b1]
    rfl
  have o2 : sdOk (rgS2 s) (rgB2 s) = (rpOk (sdT (rgS2 s) (rgB2 s)) && decide ((sdX (rgS2 s) (rgB2 s)).length ≠ 1)) := by
    unfold sdOk
    rw [rpdE_ok, b2]
    rfl
  have hX1 := raL_len' (c := 101) (many := 2) (most := 4000) (s := rgS1 s) (b := rgB1 s) (by decide)
  have hX2 := raL_len' (c := 101) (many := 2) (most := 4000) (s := rgS2 s) (b := rgB2 s) (by decide)
  rw [rj6] at hX1 hX2
  rw [decide_eq_true h3, Bool.and_true, sdL, sdL, sdP, sdP, o1, o2]
  generalize sdX (rgS1 s) (rgB1 s) = X1 at *
  generalize sdX (rgS2 s) (rgB2 s) = X2 at *
  generalize sdT (rgS1 s) (rgB1 s) = t1 at *
  generalize sdT (rgS2 s) (rgB2 s) = t2 at *
  generalize riI 109 2000 s false = n at *
  have hne : ∀ (x : Bs), decide (([x] : List Bs).length ≠ 1) = false := fun _ => rfl
  have hn0 : decide (([] : List Bs).length ≠ 1) = true := rfl
  have hn2 : ∀ (x y : Bs), decide (([x, y] : List Bs).length ≠ 1) = true := fun _ _ => rfl
  rcases X1 with _ | ⟨k, _ | ⟨v, _ | ⟨w, X1⟩⟩⟩
  rotate_left
  · rw [hne, Bool.and_false, Bool.false_and]
    repeat' (first | refine W ?_ | refine op2 ?_ | refine op6 ?_ | refine ob4 ?_ | refine ob6 ?_ | refine ob2 (fun _ => ?_) | intro _ | simp only [List.set] | refine gdT ?_ | refine gdF ?_ | refine cdT ?_ | refine cdF ?_ | fail)
    refine reI ?_
    exact imp_rg0
  rotate_left
  · simp at hX1
    omega
  all_goals
    rcases X2 with _ | ⟨k2, _ | ⟨v2, _ | ⟨w2, X2⟩⟩⟩
    rotate_left
    focus
      rw [hne, Bool.and_false, Bool.and_false]
      repeat' (first | refine W ?_ | refine op2 ?_ | refine op6 ?_ | refine ob4 ?_ | refine ob6 ?_ | refine ob2 (fun _ => ?_) | intro _ | simp only [List.set] | refine gdT ?_ | refine gdF ?_ | refine cdT ?_ | refine cdF ?_ | fail)
      refine reI ?_
      exact imp_rg0
    rotate_left
    focus
      simp at hX2
      omega
    all_goals
      first | rw [hn0, Bool.and_true] | rw [hn2, Bool.and_true]
      try rw [hn0]
      try rw [hn2]
      try rw [Bool.and_true]
      repeat' (first | refine W ?_ | refine op2 ?_ | refine op6 ?_ | refine ob4 ?_ | refine ob6 ?_ | refine ob2 (fun _ => ?_) | intro _ | simp only [List.set] | refine gdT ?_ | refine gdF ?_ | refine cdT ?_ | refine cdF ?_ | fail)
      cases hr1 : rpOk t1
      focus
        repeat' (first | refine W ?_ | refine op2 ?_ | refine op6 ?_ | refine ob4 ?_ | refine ob6 ?_ | refine ob2 (fun _ => ?_) | intro _ | simp only [List.set] | refine gdT ?_ | refine gdF ?_ | refine cdT ?_ | refine cdF ?_ | fail)
        refine reI ?_
        exact imp_rg0
      cases hr2 : rpOk t2
      focus
        repeat' (first | refine W ?_ | refine op2 ?_ | refine op6 ?_ | refine ob4 ?_ | refine ob6 ?_ | refine ob2 (fun _ => ?_) | intro _ | simp only [List.set] | refine gdT ?_ | refine gdF ?_ | refine cdT ?_ | refine cdF ?_ | fail)
        refine reI ?_
        exact imp_rg0
      repeat' (first | refine W ?_ | refine op2 ?_ | refine op6 ?_ | refine ob4 ?_ | refine ob6 ?_ | refine ob2 (fun _ => ?_) | intro _ | simp only [List.set] | refine gdT ?_ | refine gdF ?_ | refine cdT ?_ | refine cdF ?_ | fail)
      refine reI ?_
      simp only [Bool.and_self, if_true, sdE]
      exact imp_rgv⟩
end Go.Proofs.YtkijoddconipoaaGreatDoor
