/- Law 10: its small functions. -/
import Derived.Test.YtkijoddconipoaaGreatDoorP1
import Derived.Test.YtkijoddconipoaaGreatDoorP2
import Derived.Test.YtkijoddconipoaaGreatDoorP3
import Derived.Test.YtkijoddconipoaaGreatDoorP4
import Derived.Test.YtkijoddconipoaaGreatDoorP5
import Derived.Test.YtkijoddconipoaaGreatDoorQ1
import Derived.Test.YtkijoddconipoaaGreatDoorQ2
import Derived.Test.YtkijoddconipoaaGreatDoorK1
import Derived.Test.YtkijoddconipoaaGreatDoorQ3
import Derived.Test.YtkijoddconipoaaGreatDoorQ4
import Derived.Test.YtkijoddconipoaaGreatDoorQ5
import Derived.Test.YtkijoddconipoaaGreatDoorQ13
import Derived.Test.YtkijoddconipoaaGreatDoorQ14
import Derived.Test.YtkijoddconipoaaGreatDoorQ6
import Derived.Test.YtkijoddconipoaaGreatDoorQ7
import Derived.Test.YtkijoddconipoaaGreatDoorQ8
import Derived.Test.YtkijoddconipoaaGreatDoorQ10
import Derived.Test.YtkijoddconipoaaGreatDoorR10
import Derived.Test.YtkijoddconipoaaGreatDoorR11
namespace Go.Proofs.YtkijoddconipoaaGreatDoor
open Go Go.RowKit Tw Av
def few10 (l : List Ent) : List Ent := refOf ((l.take 10).map cut12)
theorem few10_len (l : List Ent) : (few10 l).length ≤ 10 := by
  unfold few10
  rw [refOf_eq]
  refine Nat.le_trans (dictOf_len1 _) ?_
  simp
  omega
theorem few10_dict (l : List Ent) : dictOf (few10 l) = few10 l := dictOf_refOf _
theorem few10_srt (l : List Ent) : Srt (few10 l) := by
  unfold few10
  rw [refOf_eq]
  exact dictOf_srt _
instance fnGSame {n n2 : Int} {l r l2 r2 : List Ent} {i m i2 m2 i3 m3 i4 m4 : Int} {p q p2 q2 : List Hsh} {xs ys zs ws xs2 ys2 zs2 ws2 : List AV} [hx : Ents xs l] [hy : Ents ys r] [hz : Hshs zs p] [hw : Hshs ws q] [hx2 : Ents xs2 l2] [hy2 : Ents ys2 r2] [hz2 : Hshs zs2 p2] [hw2 : Hshs ws2 q2] :
    Ans Tryz.prog GL 29 [.agg 9 [int n, .sl 2 xs none, .sl 2 ys none, .agg 3 [int i, int m, .sl 32 zs none], .agg 3 [int i2, int m2, .sl 32 ws none]], .agg 9 [int n2, .sl 2 xs2 none, .sl 2 ys2 none, .agg 3 [int i3, int m3, .sl 32 zs2 none], .agg 3 [int i4, int m4, .sl 32 ws2 none]]]
      (p2.length ≤ 1073741823 ∧ q2.length ≤ 1073741823) (boo (decide ((⟨n, l, r, ⟨i, m, p⟩, ⟨i2, m2, q⟩⟩ : Gp) = ⟨n2, l2, r2, ⟨i3, m3, p2⟩, ⟨i4, m4, q2⟩⟩))) := ⟨fun hpre => by
  obtain ⟨c1, c2⟩ := hpre
  have h1 := hx.out
  have h2 := hy.out
  have h3 := hz.out
  have h4 := hw.out
  have h5 := hx2.out
  have h6 := hy2.out
  have h7 := hz2.out
  have h8 := hw2.out
  subst h1 h2 h3 h4 h5 h6 h7 h8
  refine spec_enter Tryz.func29 rfl Tryz.ntmps29 rfl (fun _ hs => ?_)
  repeat' (first | refine W ?_ | refine op2 ?_ | refine ob4 ?_ | refine ob2 (fun _ => ?_) | intro _ | simp only [List.set])
  have e : decide ((⟨n, l, r, ⟨i, m, p⟩, ⟨i2, m2, q⟩⟩ : Gp) = ⟨n2, l2, r2, ⟨i3, m3, p2⟩, ⟨i4, m4, q2⟩⟩) = (decide (l = l2) && (decide (r = r2) && ((decide (p = p2) && (decide (i = i3) && decide (m = m3))) && ((decide (q = q2) && (decide (i2 = i4) && decide (m2 = m4))) && decide (n = n2))))) := by
    rw [Bool.eq_iff_iff]
    simp only [decide_eq_true_eq, Bool.and_eq_true, Gp.mk.injEq, Prf.mk.injEq]
    constructor
    · rintro ⟨a1, a2, a3, ⟨a4, a5, a6⟩, a7, a8, a9⟩
      exact ⟨a2, a3, ⟨a6, a4, a5⟩, ⟨a9, a7, a8⟩, a1⟩
    · rintro ⟨a2, a3, ⟨a6, a4, a5⟩, ⟨a9, a7, a8⟩, a1⟩
      exact ⟨a1, a2, a3, ⟨a4, a5, a6⟩, a7, a8, a9⟩
  rw [e]
  generalize decide (l = l2) = b1
  generalize decide (r = r2) = b2
  generalize (decide (p = p2) && (decide (i = i3) && decide (m = m3))) = b3
  generalize (decide (q = q2) && (decide (i2 = i4) && decide (m2 = m4))) = b4
  cases b1
  focus
    repeat' (first | refine W ?_ | refine op2 ?_ | refine ob4 ?_ | refine ob2 (fun _ => ?_) | intro _ | simp only [List.set])
    refine reE ?_
    rfl
  cases b2
  focus
    repeat' (first | refine W ?_ | refine op2 ?_ | refine ob4 ?_ | refine ob2 (fun _ => ?_) | intro _ | simp only [List.set])
    refine reE ?_
    rfl
  cases b3
  focus
    repeat' (first | refine W ?_ | refine op2 ?_ | refine ob4 ?_ | refine ob2 (fun _ => ?_) | intro _ | simp only [List.set])
    refine reE ?_
    rfl
  cases b4
  focus
    repeat' (first | refine W ?_ | refine op2 ?_ | refine ob4 ?_ | refine ob2 (fun _ => ?_) | intro _ | simp only [List.set])
    refine reE ?_
    rfl
  repeat' (first | refine W ?_ | refine op2 ?_ | refine ob4 ?_ | refine ob2 (fun _ => ?_) | intro _ | simp only [List.set])
  refine reE ?_
  simp [outOf]⟩
instance fnShort10 {s : Bs} {n : Int} : Ans Tryz.prog GL 20 [str s, int n] (0 ≤ n) (str (s.take n.toNat)) := ⟨fun hn => by
  refine spec_enter Tryz.func20 rfl Tryz.ntmps20 rfl (fun _ hs => ?_)
  repeat' (first | refine W ?_ | refine op2 ?_ | refine ob4 ?_ | refine ob2 (fun _ => ?_) | intro _ | simp only [List.set])
  refine ac_cond (fun h1 => ?_) (fun h1 => ?_)
  · repeat' (first | refine W ?_ | refine op2 ?_ | refine ob4 ?_ | refine ob2 (fun _ => ?_) | intro _ | simp only [List.set])
    refine al_sliceS 0 n.toNat ?_
    repeat' (first | refine W ?_ | refine op2 ?_ | refine ob4 ?_ | refine ob2 (fun _ => ?_) | intro _ | simp only [List.set])
    refine reE ?_
    rfl
  · repeat' (first | refine W ?_ | refine op2 ?_ | refine ob4 ?_ | refine ob2 (fun _ => ?_) | intro _ | simp only [List.set])
    refine reE ?_
    rw [List.take_of_length_le (by omega)]
    rfl⟩
instance fnFew10 {l : List Ent} {xs : List AV} {id : Option Value} [hx : Ents xs l] : Ans Tryz.prog GL 19 [.sl 2 xs id] True (.sl 2 ((few10 l).map entA) none) := ⟨fun _ => by
  have h := hx.out
  subst h
  refine spec_enter Tryz.func19 rfl Tryz.ntmps19 rfl (fun _ hs => ?_)
  repeat' (first | refine W ?_ | refine ob2 (fun _ => ?_) | intro _)
  refine ac_as 3 (Imp.nil (k := 2)) ?_
  refine ac_st (fun ok w h => h.full 104 2 none 0) ?_
  refine ac_loop (α := Nat × Value) (fun q => [(0, .sl 2 (l.map entA) id), (3, .sl 2 (((l.take q.1).map cut12).map entA) (some q.2)), (4, int q.1)]) (fun q => [.tail 104 2 q.2]) (fun q => q.1 ≤ l.length ∧ q.1 ≤ 10) (fun q => 10 - q.1) (0, .slice none 0 0) ⟨rfl, rfl, rfl, trivial⟩ (List.Sublist.refl _) ⟨Nat.zero_le _, Nat.zero_le _⟩ ?_
  rintro ⟨i, v⟩ ⟨g1, g2⟩
  dsimp only at g1 g2 ⊢
  have hm : (l.map entA).length = l.length := List.length_map _
  repeat' (first | refine W ?_ | refine ob2 (fun _ => ?_) | intro _)
  refine gu1 (fun h1 => ?_) (fun h1 => ?_)
  · repeat' (first | refine W ?_ | refine ob2 (fun _ => ?_) | intro _)
    refine ac_cond (fun h2 => ?_) (fun h2 => ?_)
    · have hlt : i < l.length := by omega
      repeat' (first | refine W ?_ | refine ob2 (fun _ => ?_) | intro _)
      refine al_idxM i hlt ?_
      repeat' (first | refine W ?_ | refine ob2 (fun _ => ?_) | intro _)
      have hcl : (l.take (i + 1)).map cut12 = (l.take i).map cut12 ++ [cut12 l[i]] := by rw [List.take_succ_eq_append_getElem hlt, List.map_append]; rfl
      rename_i g5
      refine ac_cond (fun h3 => ?_) (fun h3 => ?_)
      focus
        repeat' (first | refine W ?_ | refine ob2 (fun _ => ?_) | intro _)
        refine al_sliceS 0 12 ?_
        rw [List.drop_zero]
        repeat' (first | refine W ?_ | refine ob2 (fun _ => ?_) | intro _)
      rotate_left
      focus
        refine ac_asV (g := g5) (v' := .agg 2 [str (l[i].key.take 12), str l[i].val]) (by rw [List.take_of_length_le (by omega)]; exact fun _ _ _ h => h) ?_
        repeat' (first | refine W ?_ | refine ob2 (fun _ => ?_) | intro _)
      all_goals
        refine ac_cond (fun h4 => ?_) (fun h4 => ?_)
        focus
          repeat' (first | refine W ?_ | refine ob2 (fun _ => ?_) | intro _)
          refine al_sliceS 0 12 ?_
          rw [List.drop_zero]
          repeat' (first | refine W ?_ | refine ob2 (fun _ => ?_) | intro _)
        rotate_left
        focus
          refine ac_asV (g := g5) (v' := .agg 2 [str (l[i].key.take 12), str (l[i].val.take 12)]) (by rw [List.take_of_length_le (l := l[i].val) (by omega)]; exact fun _ _ _ h => h) ?_
          repeat' (first | refine W ?_ | refine ob2 (fun _ => ?_) | intro _)
      all_goals
        refine al_append (fun v' => ?_)
        repeat' (first | refine W ?_ | refine ob2 (fun _ => ?_) | intro _)
        refine ae_as 3 (v' := .sl 2 (((l.take (i + 1)).map cut12).map entA) (some v')) (Imp.of_eq (by rw [hcl, List.map_append])) ?_
        refine ae_round (i + 1, v') ⟨rfl, rfl, rfl, trivial⟩ ?_ ⟨hlt, by dsimp only; omega⟩ (by dsimp only; omega)
        repeat (first | exact List.nil_sublist _ | exact List.Sublist.refl _ | apply List.Sublist.cons_cons | apply List.Sublist.cons)
    · obtain rfl : i = 10 := by omega
      repeat' (first | refine W ?_ | refine ob2 (fun _ => ?_) | intro _)
      refine reE ?_
      rfl
  · obtain rfl : i = l.length := by omega
    repeat' (first | refine W ?_ | refine ob2 (fun _ => ?_) | intro _)
    refine reE ?_
    rw [few10, List.take_of_length_le (by omega), List.take_of_length_le (l := l) (by omega)]
    rfl⟩
theorem one_fnd : dictOf [(⟨[97], [49]⟩ : Ent)] = [⟨[97], [49]⟩] ∧ bsAt [(⟨[97], [49]⟩ : Ent)] [97] = 0 ∧ bsIs [(⟨[97], [49]⟩ : Ent)] [97] = true := by
  have hs : Srt [(⟨[97], [49]⟩ : Ent)] := by simp [Srt]
  have h1 := fnd_at (i := 0) hs (by simp)
  have h2 := fnd_eq (k := [97]) hs
  exact ⟨dictOf_id hs (by intro x hx; simp at hx; subst hx; simp) (by simp), h2.1.symm.trans h1.1, h2.2.symm.trans h1.2⟩
instance fnAwake10 : Ans Tryz.prog GL 18 [] True (boo true) := ⟨fun _ => by
  obtain ⟨h1, h2, h3⟩ := one_fnd
  refine spec_enter Tryz.func18 rfl Tryz.ntmps18 rfl (fun _ hs => ?_)
  repeat' (first | refine W ?_ | refine op2 ?_ | refine ob4 ?_ | refine ob2 (fun _ => ?_) | intro _ | simp only [List.set])
  rw [h1]
  repeat' (first | refine W ?_ | refine op2 ?_ | refine ob4 ?_ | refine ob2 (fun _ => ?_) | intro _ | simp only [List.set])
  rw [h2, h3]
  repeat' (first | refine W ?_ | refine op2 ?_ | refine ob4 ?_ | refine ob2 (fun _ => ?_) | intro _ | simp only [List.set])
  refine al_callI [.sl 2 [] none] (hp := Nat.zero_le _) ?_
  repeat' (first | refine W ?_ | refine op2 ?_ | refine ob4 ?_ | refine ob2 (fun _ => ?_) | intro _ | simp only [List.set])
  refine al_callI [hA (topH ((([] : List Ent).length : Nat) : Int) (treeH (([] : List Ent).map leafH))), .lit (.string ⟨#[107]⟩), .agg 9 [int 0, .sl 2 [] none, .sl 2 [] none, .agg 3 [int 0, int 0, .sl 32 [] none], .agg 3 [int 0, int 0, .sl 32 [] none]]] (hp := by decide) ?_
  rw [show missB (topH ((([] : List Ent).length : Nat) : Int) (treeH (([] : List Ent).map leafH))) [107] ⟨0, [], [], ⟨0, 0, []⟩, ⟨0, 0, []⟩⟩ = true by simp [missB, sideB, endB]]
  repeat' (first | refine W ?_ | refine op2 ?_ | refine ob4 ?_ | refine ob2 (fun _ => ?_) | intro _ | simp only [List.set])
  refine reE ?_
  rfl⟩
end Go.Proofs.YtkijoddconipoaaGreatDoor

namespace Av
open Go Go.RowKit Tw
section
variable {P : Program} {N : Nat} {ops : Array Oper} {Q : Exit → Act → World → Prop} {rest : List Oper} {s : Base} {e : Env} {m : List Piece} {d : Nat} {ty : TypeId} {pos : String} {af : Array Edge}
theorem al_neg {T : TypeId} {x : Operand} {i : Int} (h : AL P N ops Q s rest ((d, .lit (.int .i64 (-i))) :: e) m) (hx : ev e x = some (.lit (.int .i64 i)) := by exact rfl) (h1 : -9223372036854775807 ≤ i := by omega) (h2 : i ≤ 9223372036854775807 := by omega) (hd : Nat.blt d N = true := by exact rfl) :
    AL P N ops Q s (⟨some d, .unOp .neg T x, ty, pos, af, none⟩ :: rest) e m :=
  al_lit rfl (fun ok w a ha => by
    have hw : IntKind.i64.wrap (-i) = -i := wrap64_id (by omega) (by omega)
    have h0 : (Op.intArith .sub .i64 0 i).run P w = .ok (.int .i64 (-i)) w := by simp [Op.intArith, hw]
    simp [execOp, ha.lit hx, Op.unary, h0]) hd h
end
end Av
namespace Go.Proofs.YtkijoddconipoaaGreatDoor
open Go Go.RowKit Tw Av
structure Chg where
  k : Int
  a : Int
  t : UInt8
abbrev chgA (c : Chg) : AV := .agg 3 [int c.k, int c.a, u8A c.t]
/-- a hash's first byte turned -/
def turnH (t : UInt8) (h : Hsh) : Hsh := ⟨h.l.set 0 ((h.l.getD 0 0) ^^^ t), by rw [List.length_set]; exact h.len⟩
def oneHash : Hsh := ⟨1 :: List.replicate 31 0, by simp⟩
def kOf (c : Chg) : Int := ((c.k.tmod 6).natAbs : Int)
def iOf (c : Chg) (n : Nat) : Nat := ((c.a.tmod n + n) % n).toNat
def chP (c : Chg) (p : Prf) : Prf :=
  if kOf c = 1 then { p with a := p.a + 1 } else if kOf c = 2 then { p with m := p.m + 1 }
  else if kOf c = 3 ∧ 0 < p.p.length then { p with p := p.p.set (iOf c p.p.length) (turnH c.t (p.p.getD (iOf c p.p.length) zeroH)) }
  else if kOf c = 4 then { p with p := p.p ++ [oneHash] }
  else if kOf c = 5 ∧ 0 < p.p.length then { p with p := p.p.take (p.p.length - 1) }
  else p
set_option maxHeartbeats 1000000 in
instance fnChange {k a : Int} {t : UInt8} {i m : Int} {p : List Hsh} {xs : List AV} [hx : Hshs xs p] : Ans Tryz.prog GL 22 [.agg 3 [int k, int a, u8A t], .agg 3 [int i, int m, .sl 32 xs none]] (p.length ≤ 1000000 ∧ ((-9223372036854775808 ≤ k ∧ k ≤ 9223372036854775807) ∧ -9223372036854775808 ≤ a ∧ a ≤ 9223372036854775807) ∧ (-4611686018427387904 ≤ i ∧ i ≤ 4611686018427387904) ∧ -4611686018427387904 ≤ m ∧ m ≤ 4611686018427387904) (prfA (chP ⟨k, a, t⟩ ⟨i, m, p⟩)) := ⟨fun hpre => by
  obtain ⟨c0, ⟨⟨c1, c2⟩, c3, c4⟩, ⟨c5, c6⟩, c7, c8⟩ := hpre
  have h := hx.out
  subst h
  have hm : (p.map hA).length = p.length := List.length_map _
  refine spec_enter Tryz.func22 rfl Tryz.ntmps22 rfl (fun _ hs => ?_)
  repeat' (first | refine W ?_ | refine op2 ?_ | refine ob4 ?_ | refine ob2 (fun _ => ?_) | intro _ | simp only [List.set])
  have t1 := tmod_rng k (b := 6) (by omega)
  obtain ⟨K, hK⟩ : ∃ K : Nat, (k.tmod 6).natAbs = K := ⟨_, rfl⟩
  have hk : kOf ⟨k, a, t⟩ = (K : Int) := by rw [← hK]; rfl
  by_cases h3 : K = 3 ∧ 0 < p.length
  · obtain ⟨rfl, hp0⟩ := h3
    have e : chP ⟨k, a, t⟩ ⟨i, m, p⟩ = ⟨i, m, p.set (iOf ⟨k, a, t⟩ p.length) (turnH t (p.getD (iOf ⟨k, a, t⟩ p.length) zeroH))⟩ := by
      unfold chP
      rw [hk]
      simp [hp0]
    rw [e]
    refine al_appendN (h0 := by omega) (fun g' c' hc' => ?_)
    repeat' (first | refine W ?_ | refine op2 ?_ | refine ob4 ?_ | refine ob2 (fun _ => ?_) | intro _ | simp only [List.set])
    refine al_tmod ?_
    generalize k.tmod 6 = r at *
    repeat' (first | refine W ?_ | refine op2 ?_ | refine ob4 ?_ | refine ob2 (fun _ => ?_) | intro _ | simp only [List.set])
    refine ac_cond (fun hlt => ?_) (fun hlt => ?_)
    focus
      repeat' (first | refine W ?_ | refine op2 ?_ | refine ob4 ?_ | refine ob2 (fun _ => ?_) | intro _ | simp only [List.set])
      refine al_neg ?_
      rw [show -r = 3 by omega]
    rotate_left
    focus
      rw [show r = 3 by omega]
    all_goals
      have t2 := tmod_rng a (b := ((p.map hA).length : Int)) (by omega)
      repeat' (first | refine W ?_ | refine op2 ?_ | refine ob4 ?_ | refine ob2 (fun _ => ?_) | intro _ | simp only [List.set] | refine gdT ?_ | refine gdF ?_ | refine cdT ?_ | refine cdF ?_ | fail)
      refine al_tmod ?_
      generalize hr2 : a.tmod ((p.map hA).length : Int) = r2 at *
      repeat' (first | refine W ?_ | refine op2 ?_ | refine ob4 ?_ | refine ob2 (fun _ => ?_) | intro _ | simp only [List.set] | refine gdT ?_ | refine gdF ?_ | refine cdT ?_ | refine cdF ?_ | fail)
    all_goals
      have hj1 := Int.emod_nonneg (r2 + ((p.map hA).length : Int)) (b := ((p.map hA).length : Int)) (by omega)
      have hj2 := Int.emod_lt_of_pos (r2 + ((p.map hA).length : Int)) (b := ((p.map hA).length : Int)) (by omega)
      obtain ⟨j, hj⟩ : ∃ j : Nat, (r2 + ((p.map hA).length : Int)) % ((p.map hA).length : Int) = (j : Int) := ⟨((r2 + ((p.map hA).length : Int)) % ((p.map hA).length : Int)).toNat, by omega⟩
      have hij : iOf ⟨k, a, t⟩ p.length = j := by
        unfold iOf
        rw [← hm, hr2, hj]
        rfl
      rw [hij]
      rw [hj] at hj1 hj2 ⊢
      have hjl : j < p.length := by omega
      rw [getD_at hjl]
      have hjm : (p.map hA)[j]? = some (hA p[j]) := by rw [List.getElem?_map, List.getElem?_eq_getElem hjl]; rfl
      rcases hpj : p[j] with ⟨_ | ⟨b, bs⟩, hbl⟩
      focus
        simp at hbl
      rw [hpj] at hjm
      apply obl_read []; exact rfl; exact rfl; kernel_rfl; intro _ _
      refine al_idxB j ?_
      exact al_nil (ae_got rfl rfl)
      repeat' (first | refine W ?_ | refine op2 ?_ | refine ob4 ?_ | refine ob2 (fun _ => ?_) | intro _ | simp only [List.set])
      apply obl_read [0]; exact rfl; exact rfl; kernel_rfl; intro _ _
      refine al_loadB (j := j) (k := 32) (off := 0) hjm ?_
      exact al_nil (ae_got rfl rfl)
      repeat' (first | refine W ?_ | refine op2 ?_ | refine ob4 ?_ | refine ob2 (fun _ => ?_) | intro _ | simp only [List.set])
      apply obl_read []; exact rfl; exact rfl; kernel_rfl; intro _ _
      refine al_idxB j ?_
      exact al_nil (ae_got rfl rfl)
      repeat' (first | refine W ?_ | refine op2 ?_ | refine ob4 ?_ | refine ob2 (fun _ => ?_) | intro _ | simp only [List.set])
      apply obl_writeN [0]; exact rfl; exact rfl; kernel_rfl
      focus
        intro _ _
        refine al_storeB (j := j) (off := 0) (xs := p.map hA) (y := hA ⟨b :: bs, hbl⟩) (y' := hA ⟨(b ^^^ t) :: bs, hbl⟩) hjm ?_
        exact al_nil (ae_gotN rfl)
      focus
        exact rfl
      focus
        exact rfl
      refine obl_nil ?_
      have hset : (p.map hA).set j (hA ⟨(b ^^^ t) :: bs, hbl⟩) = (p.set j (turnH t ⟨b :: bs, hbl⟩)).map hA := by rw [List.map_set]; rfl
      repeat refine ct1 ?_
      refine al_freeze 5 (hn := by rw [List.length_set]) ?_
      rw [hset, ← hpj]
      repeat' (first | refine W ?_ | refine op2 ?_ | refine ob4 ?_ | refine ob2 (fun _ => ?_) | intro _ | simp only [List.set])
      rw [prfA]
      refine reI ?_
      exact ImpR.imp (a := .agg 3 _) (b := .agg 3 _)
  · refine al_as 8 (Imp.nil (k := 32)) ?_
    refine al_st (fun ok w h => h.full 33 32 none 0) ?_
    refine al_append (fun v' => ?_)
    rw [List.nil_append]
    repeat' (first | refine W ?_ | refine op2 ?_ | refine ob4 ?_ | refine ob2 (fun _ => ?_) | intro _ | simp only [List.set])
    refine al_tmod ?_
    generalize k.tmod 6 = r at *
    repeat' (first | refine W ?_ | refine op2 ?_ | refine ob4 ?_ | refine ob2 (fun _ => ?_) | intro _ | simp only [List.set])
    refine ac_cond (fun hlt => ?_) (fun hlt => ?_)
    focus
      repeat' (first | refine W ?_ | refine op2 ?_ | refine ob4 ?_ | refine ob2 (fun _ => ?_) | intro _ | simp only [List.set])
      refine al_neg ?_
      rw [show -r = (K : Int) by omega]
    rotate_left
    focus
      rw [show r = (K : Int) by omega]
    all_goals
      rcases K with _ | _ | _ | _ | _ | _ | K
      focus
        repeat' (first | refine W ?_ | refine op2 ?_ | refine ob4 ?_ | refine ob2 (fun _ => ?_) | intro _ | simp only [List.set] | refine gdT ?_ | refine gdF ?_ | refine cdT ?_ | refine cdF ?_ | fail)
        have e : chP ⟨k, a, t⟩ ⟨i, m, p⟩ = ⟨i, m, p⟩ := by
          unfold chP
          rw [hk]
          simp
        rw [e]
        refine reI ?_
        exact ImpR.imp (a := .agg 3 _) (b := .agg 3 _)
      focus
        repeat' (first | refine W ?_ | refine op2 ?_ | refine ob4 ?_ | refine ob2 (fun _ => ?_) | intro _ | simp only [List.set] | refine gdT ?_ | refine gdF ?_ | refine cdT ?_ | refine cdF ?_ | fail)
        have e : chP ⟨k, a, t⟩ ⟨i, m, p⟩ = ⟨i + 1, m, p⟩ := by
          unfold chP
          rw [hk]
          simp
        rw [e]
        refine reI ?_
        exact ImpR.imp (a := .agg 3 _) (b := .agg 3 _)
      focus
        repeat' (first | refine W ?_ | refine op2 ?_ | refine ob4 ?_ | refine ob2 (fun _ => ?_) | intro _ | simp only [List.set] | refine gdT ?_ | refine gdF ?_ | refine cdT ?_ | refine cdF ?_ | fail)
        have e : chP ⟨k, a, t⟩ ⟨i, m, p⟩ = ⟨i, m + 1, p⟩ := by
          unfold chP
          rw [hk]
          simp
        rw [e]
        refine reI ?_
        exact ImpR.imp (a := .agg 3 _) (b := .agg 3 _)
      focus
        repeat' (first | refine W ?_ | refine op2 ?_ | refine ob4 ?_ | refine ob2 (fun _ => ?_) | intro _ | simp only [List.set] | refine gdT ?_ | refine gdF ?_ | refine cdT ?_ | refine cdF ?_ | fail)
        have e : chP ⟨k, a, t⟩ ⟨i, m, p⟩ = ⟨i, m, p⟩ := by
          unfold chP
          rw [hk]
          simp
          omega
        rw [e]
        refine reI ?_
        exact ImpR.imp (a := .agg 3 _) (b := .agg 3 _)
      focus
        repeat' (first | refine W ?_ | refine op2 ?_ | refine ob4 ?_ | refine ob2 (fun _ => ?_) | intro _ | simp only [List.set] | refine gdT ?_ | refine gdF ?_ | refine cdT ?_ | refine cdF ?_ | fail)
        refine al_append (fun v'' => ?_)
        repeat' (first | refine W ?_ | refine op2 ?_ | refine ob4 ?_ | refine ob2 (fun _ => ?_) | intro _ | simp only [List.set] | refine gdT ?_ | refine gdF ?_ | refine cdT ?_ | refine cdF ?_ | fail)
        have e : chP ⟨k, a, t⟩ ⟨i, m, p⟩ = ⟨i, m, p ++ [oneHash]⟩ := by
          unfold chP
          rw [hk]
          simp
        rw [e, prfA, List.map_append]
        refine reI ?_
        rw [show [AV.agg 32 (AV.lit (Value.int IntKind.u8 1) :: List.map u8A (List.replicate 31 0))] = [oneHash].map hA from rfl]
        exact ImpR.imp (a := .agg 3 _) (b := .agg 3 _)
      focus
        repeat' (first | refine W ?_ | refine op2 ?_ | refine ob4 ?_ | refine ob2 (fun _ => ?_) | intro _ | simp only [List.set] | refine gdT ?_ | refine gdF ?_ | refine cdT ?_ | refine cdF ?_ | fail)
        refine ac_cond (fun hp => ?_) (fun hp => ?_)
        focus
          repeat' (first | refine W ?_ | refine op2 ?_ | refine ob4 ?_ | refine ob2 (fun _ => ?_) | intro _ | simp only [List.set] | refine gdT ?_ | refine gdF ?_ | refine cdT ?_ | refine cdF ?_ | fail)
          refine al_sliceD 0 (p.length - 1) ?_
          repeat' (first | refine W ?_ | refine op2 ?_ | refine ob4 ?_ | refine ob2 (fun _ => ?_) | intro _ | simp only [List.set] | refine gdT ?_ | refine gdF ?_ | refine cdT ?_ | refine cdF ?_ | fail)
          have e : chP ⟨k, a, t⟩ ⟨i, m, p⟩ = ⟨i, m, p.take (p.length - 1)⟩ := by
            unfold chP
            rw [hk]
            simp [show 0 < p.length by omega]
          rw [e, prfA, List.map_take]
          refine reI ?_
          rw [List.drop_zero]
          exact ImpR.imp (a := .agg 3 _) (b := .agg 3 _)
        focus
          repeat' (first | refine W ?_ | refine op2 ?_ | refine ob4 ?_ | refine ob2 (fun _ => ?_) | intro _ | simp only [List.set] | refine gdT ?_ | refine gdF ?_ | refine cdT ?_ | refine cdF ?_ | fail)
          have e : chP ⟨k, a, t⟩ ⟨i, m, p⟩ = ⟨i, m, p⟩ := by
            unfold chP
            rw [hk]
            simp
            omega
          rw [e]
          refine reI ?_
          exact ImpR.imp (a := .agg 3 _) (b := .agg 3 _)
      focus
        exfalso
        omega⟩
end Go.Proofs.YtkijoddconipoaaGreatDoor
