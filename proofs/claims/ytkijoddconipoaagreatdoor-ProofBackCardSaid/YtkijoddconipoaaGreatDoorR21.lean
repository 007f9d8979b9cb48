/- Law 10: bytes read back. -/
import Derived.Test.YtkijoddconipoaaGreatDoorP1
import Derived.Test.YtkijoddconipoaaGreatDoorP2
import Derived.Test.YtkijoddconipoaaGreatDoorP3
import Derived.Test.YtkijoddconipoaaGreatDoorP4
import Derived.Test.YtkijoddconipoaaGreatDoorP5
import Derived.Test.YtkijoddconipoaaGreatDoorQ1
import Derived.Test.YtkijoddconipoaaGreatDoorQ2
import Derived.Test.YtkijoddconipoaaGreatDoorK1
import Derived.Test.YtkijoddconipoaaGreatDoorQ3
import Derived.Test.YtkijoddconipoaaGreatDoorQ4
import Derived.Test.YtkijoddconipoaaGreatDoorQ5
import Derived.Test.YtkijoddconipoaaGreatDoorQ13
import Derived.Test.YtkijoddconipoaaGreatDoorQ14
import Derived.Test.YtkijoddconipoaaGreatDoorQ6
import Derived.Test.YtkijoddconipoaaGreatDoorQ7
import Derived.Test.YtkijoddconipoaaGreatDoorQ8
import Derived.Test.YtkijoddconipoaaGreatDoorQ10
import Derived.Test.YtkijoddconipoaaGreatDoorR10
import Derived.Test.YtkijoddconipoaaGreatDoorR11
import Derived.Test.YtkijoddconipoaaGreatDoorR12
import Derived.Test.YtkijoddconipoaaGreatDoorR19
import Derived.Test.YtkijoddconipoaaGreatDoorR13
import Derived.Test.YtkijoddconipoaaGreatDoorR14
import Derived.Test.YtkijoddconipoaaGreatDoorR15
import Derived.Test.YtkijoddconipoaaGreatDoorR16
import Derived.Test.YtkijoddconipoaaGreatDoorR20
namespace Go.Proofs.YtkijoddconipoaaGreatDoor
open Go Go.RowKit Tw Av
structure PG (p : Prf) : Prop where
  a : 0 ≤ p.a ∧ p.a ≤ 2000
  m : 0 ≤ p.m ∧ p.m ≤ 2000
  l : p.p.length ≤ 16
theorem hOf_self (h : Hsh) : hOf h.l = h := by
  unfold hOf
  rw [dif_pos h.len]
theorem map_hOf (l : List Hsh) : (l.map fun h => h.l).map hOf = l := by
  rw [List.map_map]
  conv => rhs; rw [← List.map_id l]
  exact List.map_congr_left fun h _ => hOf_self h
theorem rp_parts {p : Prf} (h : PG p) (r : Bs) : rpL (prfB p ++ r) = p.p.map (fun h => h.l) ∧ rpE (prfB p ++ r) = (if r = [] then 0 else 10) ∧ rpV (prfB p ++ r) = p := by
  obtain ⟨⟨h1, h2⟩, ⟨h3, h4⟩, h5⟩ := h
  have hB : prfB p ++ r = tlvI 105 p.a ++ (tlvI 109 p.m ++ (tlvA 112 (p.p.map fun h => h.l) ++ r)) := by
    unfold prfB
    simp only [List.append_assoc]
  have hall : ∀ s ∈ p.p.map (fun h => h.l), (s.length : Int) ≤ 32 ∧ s.length ≤ 16777215 := fun s hs => by
    obtain ⟨q, _, rfl⟩ := List.mem_map.1 hs
    rw [q.len]
    decide
  obtain ⟨a1, a2, a3⟩ := rd_tlvI (c := 105) (most := 2000) (n := p.a) (r := tlvI 109 p.m ++ (tlvA 112 (p.p.map fun h => h.l) ++ r)) (by decide) (by decide) h1 h2 (by decide)
  obtain ⟨b1, b2, b3⟩ := rd_tlvI (c := 109) (most := 2000) (n := p.m) (r := tlvA 112 (p.p.map fun h => h.l) ++ r) (by decide) (by decide) h3 h4 (by decide)
  obtain ⟨d1, d2, d3⟩ := rd_tlvA (c := 112) (many := 16) (most := 32) (l := p.p.map fun h => h.l) (r := r) (by decide) (by decide) (by rw [List.length_map]; omega) hall (by
    have := flat_short (c := 112) (n := 32) (l := p.p.map fun h => h.l) (fun s hs => by have := hall s hs; omega) (by decide)
    rw [List.length_map] at this
    omega)
  have s1 : rpS1 (prfB p ++ r) = tlvI 109 p.m ++ (tlvA 112 (p.p.map fun h => h.l) ++ r) := by unfold rpS1; rw [hB, a2]
  have t1 : rpB1 (prfB p ++ r) = false := by unfold rpB1; rw [hB, a3]
  have s2 : rpS2 (prfB p ++ r) = tlvA 112 (p.p.map fun h => h.l) ++ r := by unfold rpS2; rw [s1, t1, b2]
  have t2 : rpB2 (prfB p ++ r) = false := by unfold rpB2; rw [s1, t1, b3]
  have hL : rpL (prfB p ++ r) = p.p.map (fun h => h.l) := by unfold rpL; rw [s2, t2, d1]
  refine ⟨hL, ?_, ?_⟩
  · unfold rpE
    rw [s2, t2, d2, d3]
    unfold reE'
    by_cases hr : r = []
    · simp [hr]
    · simp [hr]
  · unfold rpV
    rw [hL, map_hOf, s1, t1, b1, hB, a1]
theorem rp_all (p : Prf) : (p.p.map fun h => h.l).all ok32 = true := by
  rw [List.all_eq_true]
  intro s hs
  obtain ⟨q, _, rfl⟩ := List.mem_map.1 hs
  exact decide_eq_true q.len
theorem rpd_prfB {p : Prf} (h : PG p) : rpdV (prfB p) = p ∧ rpdE (prfB p) = 0 ∧ rpdE (prfB p ++ [120]) = 10 := by
  obtain ⟨a1, a2, a3⟩ := rp_parts h []
  obtain ⟨b1, b2, b3⟩ := rp_parts h [120]
  rw [List.append_nil] at a1 a2 a3
  have hk : rpOk (prfB p) = true := by
    unfold rpOk
    rw [a1, a2, rp_all]
    rfl
  have hk2 : rpOk (prfB p ++ [120]) = false := by
    unfold rpOk
    rw [b2, Bool.and_eq_false_iff]
    exact .inr rfl
  unfold rpdV rpdE
  rw [if_pos hk, if_pos hk, hk2, a3]
  exact ⟨rfl, rfl, rfl⟩
theorem prfB_short {p : Prf} (h : PG p) : (prfB p).length ≤ 4000 := by
  have h1 : (digits p.a.toNat).length ≤ 8 := digitsF_len 8 _
  have h2 : (digits p.m.toNat).length ≤ 8 := digitsF_len 8 _
  have h3 := h.l
  have hall : ∀ s ∈ p.p.map (fun h => h.l), s.length ≤ 32 := fun s hs => by
    obtain ⟨q, _, rfl⟩ := List.mem_map.1 hs
    rw [q.len]
    exact Nat.le_refl _
  have h4 := flat_short (c := 112) (n := 32) hall (by decide)
  rw [List.length_map] at h4
  have e : prfB p = tlvT 105 (digits p.a.toNat) ++ tlvT 109 (digits p.m.toNat) ++ tlvT 112 ((p.p.map fun h => h.l).flatMap (tlvT 112)) := rfl
  rw [e, tlvT_cons (by omega), tlvT_cons (by omega), tlvT_cons (by omega)]
  simp only [List.length_append, List.length_cons]
  omega
/-- a side that may be -/
structure SG (l : List Ent) (p : Prf) : Prop where
  n : l.length ≤ 1
  f : ∀ x ∈ l, x.key.length ≤ 4000 ∧ x.val.length ≤ 4000
  p : PG p
theorem sd_sidB {l : List Ent} {p : Prf} {r : Bs} (h : SG l p) : sdOk (sidB l p ++ r) false = true ∧ sdL (sidB l p ++ r) false = l ∧ sdP (sidB l p ++ r) false = p ∧ sdS2 (sidB l p ++ r) false = r ∧ sdB2 (sidB l p ++ r) false = false := by
  have hB : sidB l p ++ r = tlvA 101 (sideT l) ++ (tlvT 80 (prfB p) ++ r) := by
    unfold sidB
    simp only [List.append_assoc]
  have hsT : (sideT l).length ≤ 2 := by rw [sideT_len]; have := h.n; omega
  have hall : ∀ s ∈ sideT l, s.length ≤ 4000 := fun s hs => by
    unfold sideT at hs
    obtain ⟨x, hx, hs⟩ := List.mem_flatMap.1 hs
    have := h.f x hx
    simp only [List.mem_cons, List.not_mem_nil, or_false] at hs
    rcases hs with rfl | rfl
    · exact this.1
    · exact this.2
  have hps := prfB_short h.p
  obtain ⟨a1, a2, a3⟩ := rd_tlvA (c := 101) (many := 2) (most := 4000) (l := sideT l) (r := tlvT 80 (prfB p) ++ r) (by decide) (by decide) (by omega) (fun s hs => by have := hall s hs; omega) (by
    have := flat_short (c := 101) hall (by decide)
    omega)
  obtain ⟨b1, b2, b3⟩ := rd_tlvT (c := 80) (most := 4000) (s := prfB p) (r := r) (by decide) (by decide) (by omega) (by omega)
  have s1 : sdS1 (sidB l p ++ r) false = tlvT 80 (prfB p) ++ r := by unfold sdS1; rw [hB, a2]
  have t1 : sdB1 (sidB l p ++ r) false = false := by unfold sdB1; rw [hB, a3]
  have hX : sdX (sidB l p ++ r) false = sideT l := by unfold sdX; rw [hB, a1]
  have hT : sdT (sidB l p ++ r) false = prfB p := by unfold sdT; rw [s1, t1, b1]
  have hS : sdS2 (sidB l p ++ r) false = r := by unfold sdS2; rw [s1, t1, b2]
  have hb : sdB2 (sidB l p ++ r) false = false := by unfold sdB2; rw [s1, t1, b3]
  obtain ⟨q1, q2, _⟩ := rpd_prfB h.p
  have hne : (sideT l).length ≠ 1 := by rw [sideT_len]; omega
  have hk : sdOk (sidB l p ++ r) false = true := by
    unfold sdOk
    rw [hT, hb, hX, q2, decide_eq_true hne]
    rfl
  refine ⟨hk, ?_, ?_, hS, hb⟩
  · unfold sdL
    rw [if_pos hk, hX]
    have hn := h.n
    rcases l with _ | ⟨x, _ | ⟨y, l⟩⟩
    · rfl
    · rfl
    · simp at hn
  · unfold sdP
    rw [if_pos hk, hT, q1]
structure GG (g : Gp) : Prop where
  n : 0 ≤ g.n ∧ g.n ≤ 2000
  a : SG g.l g.a
  b : SG g.r g.b
theorem rgd_gapB {g : Gp} (h : GG g) : rgdV (gapB g) = g ∧ rgdE (gapB g) = 0 := by
  have hB : gapB g = tlvI 109 g.n ++ (sidB g.l g.a ++ (sidB g.r g.b ++ [])) := by
    unfold gapB
    simp only [List.append_assoc, List.append_nil]
  obtain ⟨a1, a2, a3⟩ := rd_tlvI (c := 109) (most := 2000) (n := g.n) (r := sidB g.l g.a ++ (sidB g.r g.b ++ [])) (by decide) (by decide) h.n.1 h.n.2 (by decide)
  obtain ⟨b1, b2, b3, b4, b5⟩ := sd_sidB (r := sidB g.r g.b ++ []) h.a
  obtain ⟨d1, d2, d3, d4, d5⟩ := sd_sidB (r := []) h.b
  have s1 : rgS1 (gapB g) = sidB g.l g.a ++ (sidB g.r g.b ++ []) := by unfold rgS1; rw [hB, a2]
  have t1 : rgB1 (gapB g) = false := by unfold rgB1; rw [hB, a3]
  have s2 : rgS2 (gapB g) = sidB g.r g.b ++ [] := by unfold rgS2; rw [s1, t1, b4]
  have t2 : rgB2 (gapB g) = false := by unfold rgB2; rw [s1, t1, b5]
  have hE : rgE (gapB g) = 0 := by unfold rgE; rw [s2, t2, d4, d5]; rfl
  have hV : rgV (gapB g) = g := by
    unfold rgV
    rw [s1, t1, s2, t2, b2, b3, d2, d3, hB, a1]
  have hk : rgOk (gapB g) = true := by
    unfold rgOk
    rw [s1, t1, s2, t2, b1, d1, hE]
    rfl
  unfold rgdV rgdE
  rw [if_pos hk, if_pos hk, hV]
  exact ⟨rfl, rfl⟩
theorem sidB_len (l : List Ent) (p : Prf) : (sidB l p).length ≤ 33554438 := (inferInstance : LenLe (sidB l p) 33554438).out
theorem gapB_len (g : Gp) : (gapB g).length ≤ 1000000000 := by
  have h1 := tlvT_len 109 (digits g.n.toNat)
  have h2 := sidB_len g.l g.a
  have h3 := sidB_len g.r g.b
  have e : gapB g = tlvT 109 (digits g.n.toNat) ++ sidB g.l g.a ++ sidB g.r g.b := rfl
  rw [e]
  simp only [List.length_append]
  omega
theorem zeroP_pg : PG zeroP := ⟨by decide, by decide, by decide⟩
theorem atP_pg {d : List Ent} {i : Nat} (hd : d.length ≤ 10) (h : i ≤ 10) : PG (atP d i) := by
  have := atP_len hd i
  exact ⟨by simp only [atP]; omega, by simp only [atP]; omega, by omega⟩
theorem memP_pg {d : List Ent} {i : Nat} {b : Bool} (hd : d.length ≤ 10) (h : i ≤ d.length) : PG (memP d i b) := by
  unfold memP
  split
  · exact atP_pg hd (by omega)
  · exact zeroP_pg
theorem getD_fits {d : List Ent} (hf : Fits d) (i : Nat) : (d.getD i ⟨[], []⟩).key.length ≤ 4000 ∧ (d.getD i ⟨[], []⟩).val.length ≤ 4000 := by
  by_cases h : i < d.length
  · have e : d.getD i ⟨[], []⟩ = d[i] := by simp [List.getD, h]
    rw [e]
    have := hf d[i] (List.getElem_mem h)
    omega
  · have e : d.getD i ⟨[], []⟩ = ⟨[], []⟩ := by simp [List.getD, h]
    rw [e]
    exact ⟨Nat.zero_le _, Nat.zero_le _⟩
theorem absG_gg {d : List Ent} {n : Nat} {b : Bool} (hd : d.length ≤ 10) (hn : n ≤ d.length) (hf : Fits d) : GG (absG d n b) := by
  unfold absG
  split
  · exact ⟨by decide, ⟨by decide, by simp [zeroG], zeroP_pg⟩, ⟨by decide, by simp [zeroG], zeroP_pg⟩⟩
  · refine ⟨by dsimp only; omega, ⟨?_, ?_, ?_⟩, ⟨?_, ?_, ?_⟩⟩
    · dsimp only; split <;> simp
    · dsimp only
      split
      · intro x hx
        obtain rfl := List.mem_singleton.1 hx
        exact getD_fits hf _
      · simp
    · dsimp only
      split
      · exact atP_pg hd (by omega)
      · exact zeroP_pg
    · dsimp only; split <;> simp
    · dsimp only
      split
      · intro x hx
        obtain rfl := List.mem_singleton.1 hx
        exact getD_fits hf _
      · simp
    · dsimp only
      split
      · exact atP_pg hd (by omega)
      · exact zeroP_pg
theorem few10_fits (l : List Ent) : Fits (few10 l) := by
  unfold few10
  rw [refOf_eq]
  exact dictOf_fits _
set_option maxHeartbeats 4000000 in
instance fnProofBack {l : List Ent} {key : Bs} {xs : List AV} {id : Option Value} [hx : Ents xs l] : Ans Tryz.prog GL 5 [.sl 2 xs id, str key] True (boo true) := ⟨fun _ => by
  have h1 := hx.out
  subst h1
  refine spec_enter Tryz.func5 rfl Tryz.ntmps5 rfl (fun _ hs => ?_)
  repeat' (first | refine W ?_ | refine op2 ?_ | refine ob4 ?_ | refine ob2 (fun _ => ?_) | intro _ | simp only [List.set])
  have h3 := few10_len l
  have h4 := few10_dict l
  have h5 := few10_srt l
  have h6 := few10_fits l
  generalize few10 l = f at *
  repeat' (first | refine W ?_ | refine op2 ?_ | refine ob4 ?_ | refine ob2 (fun _ => ?_) | intro _ | simp only [List.set])
  rw [h4]
  have hle := bsAt_le f (key.take (Int.toNat 12))
  have hPG := memP_pg (b := bsIs f (key.take (Int.toNat 12))) h3 hle
  have hGG := absG_gg (b := bsIs f (key.take (Int.toNat 12))) h3 hle h6
  repeat' (first | refine W ?_ | refine op2 ?_ | refine ob4 ?_ | refine ob2 (fun _ => ?_) | intro _ | simp only [List.set])
  generalize memP f (bsAt f (key.take (Int.toNat 12))) (bsIs f (key.take (Int.toNat 12))) = P at *
  generalize absG f (bsAt f (key.take (Int.toNat 12))) (bsIs f (key.take (Int.toNat 12))) = G at *
  obtain ⟨r1, r2, r3⟩ := rpd_prfB hPG
  obtain ⟨r4, r5⟩ := rgd_gapB hGG
  have w1 : P.p.length ≤ 1000000 ∧ P.a ≤ 9223372036854775807 ∧ P.m ≤ 9223372036854775807 := ⟨by have := hPG.l; omega, by have := hPG.a; omega, by have := hPG.m; omega⟩
  have w2 : GapW ⟨G.n, G.l, G.r, ⟨G.a.a, G.a.m, G.a.p⟩, ⟨G.b.a, G.b.m, G.b.p⟩⟩ := by
    have h7 := hGG.a.n
    have h8 := hGG.b.n
    have h9 := hGG.a.p.l
    have h10 := hGG.b.p.l
    have h11 := hGG.a.p.a
    have h12 := hGG.b.p.a
    have h13 := hGG.a.p.m
    have h14 := hGG.b.p.m
    have h15 := hGG.n
    exact ⟨by dsimp only; omega, by dsimp only; omega, by dsimp only; omega⟩
  have w3 := prfB_len ⟨P.a, P.m, P.p⟩
  have w4 : (prfB ⟨P.a, P.m, P.p⟩).length ≤ 1000000000 := by omega
  have w5 : (gapB ⟨G.n, G.l, G.r, ⟨G.a.a, G.a.m, G.a.p⟩, ⟨G.b.a, G.b.m, G.b.p⟩⟩).length ≤ 1000000000 := gapB_len _
  have w6 : P.p.length ≤ 1073741823 := by omega
  have w7 : G.a.p.length ≤ 1073741823 ∧ G.b.p.length ≤ 1073741823 := ⟨by have := hGG.a.p.l; omega, by have := hGG.b.p.l; omega⟩
  have w8 : (prfB ⟨P.a, P.m, P.p⟩ ++ [120]).length ≤ 1000000000 := by simp; omega
  repeat' (first | refine W ?_ | refine op2 ?_ | refine ob4 ?_ | refine ob2 (fun _ => ?_) | intro _ | simp only [List.set])
  rw [show rpdV (prfB ⟨P.a, P.m, P.p⟩) = P from r1, show rpdE (prfB ⟨P.a, P.m, P.p⟩) = 0 from r2]
  rw [show rgdV (gapB ⟨G.n, G.l, G.r, ⟨G.a.a, G.a.m, G.a.p⟩, ⟨G.b.a, G.b.m, G.b.p⟩⟩) = G from r4, show rgdE (gapB ⟨G.n, G.l, G.r, ⟨G.a.a, G.a.m, G.a.p⟩, ⟨G.b.a, G.b.m, G.b.p⟩⟩) = 0 from r5]
  repeat' (first | refine W ?_ | refine op2 ?_ | refine ob4 ?_ | refine ob2 (fun _ => ?_) | intro _ | simp only [List.set])
  rw [show rpdE (prfB ⟨P.a, P.m, P.p⟩ ++ [120]) = 10 from r3]
  refine reE ?_
  rfl⟩
end Go.Proofs.YtkijoddconipoaaGreatDoor
