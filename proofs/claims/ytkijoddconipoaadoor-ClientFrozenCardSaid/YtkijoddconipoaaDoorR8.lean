/- Law 14: a law, walked. -/
import Derived.Test.YtkijoddconipoaaDoorP1
import Derived.Test.YtkijoddconipoaaDoorP2
import Derived.Test.YtkijoddconipoaaDoorP3
import Derived.Test.YtkijoddconipoaaDoorP4
import Derived.Test.YtkijoddconipoaaDoorQ1
import Derived.Test.YtkijoddconipoaaDoorQ2
import Derived.Test.YtkijoddconipoaaDoorK1
import Derived.Test.YtkijoddconipoaaDoorQ3
import Derived.Test.YtkijoddconipoaaDoorQ5
import Derived.Test.YtkijoddconipoaaDoorR1
import Derived.Test.YtkijoddconipoaaDoorR2
import Derived.Test.YtkijoddconipoaaDoorR3
import Derived.Test.YtkijoddconipoaaDoorR4
import Derived.Test.YtkijoddconipoaaDoorR5
import Derived.Test.YtkijoddconipoaaDoorR7
import Derived.Test.YtkijoddconipoaaDoorR6
namespace Go.Proofs.YtkijoddconipoaaDoor
open Go Go.RowKit Tw Av
/-- headers of one chain: heights from 1 on, times that never fall -/
structure Hon (hs : List Hdr) (B : Int) : Prop where
  at_ : ∀ j, (hj : j < hs.length) → hs[j].c = [97] ∧ hs[j].h = (j : Int) + 1 ∧ 0 ≤ hs[j].t ∧ hs[j].t ≤ B
  up : ∀ j k, (hj : j < hs.length) → (hk : k < hs.length) → j ≤ k → hs[j].t ≤ hs[k].t
theorem Hon.nil : Hon [] 0 := ⟨fun j hj => by simp at hj, fun j k hj => by simp at hj⟩
theorem Hon.snoc {hs : List Hdr} {B t : Int} {r : Hsh} (h : Hon hs B) (ht : B ≤ t) (hB : 0 ≤ B) : Hon (hs ++ [(⟨[97], (hs.length : Int) + 1, t, r⟩ : Hdr)]) t := by
  refine ⟨fun j hj => ?_, fun j k hj hk hjk => ?_⟩
  · rw [List.getElem_append]
    split
    · rename_i h1
      obtain ⟨a, b, c, d⟩ := h.at_ j h1
      exact ⟨a, b, c, by omega⟩
    · rename_i h1
      simp only [List.length_append, List.length_cons, List.length_nil] at hj
      obtain rfl : j = hs.length := by omega
      simp
      omega
  · simp only [List.length_append, List.length_cons, List.length_nil] at hj hk
    rw [List.getElem_append, List.getElem_append]
    split
    · rename_i h1
      obtain ⟨_, _, _, d⟩ := h.at_ j h1
      split
      · rename_i h2
        exact h.up j k h1 h2 hjk
      · simp
        omega
    · rename_i h1
      rw [dif_neg (by omega)]
      simp
theorem rise_len : ∀ {l : List Sta} {lo hi : Int}, lo ≤ hi → Rise l → (∀ s ∈ l, lo < s.h ∧ s.h ≤ hi) → (l.length : Int) ≤ hi - lo
  | [], lo, hi, h, _, _ => by simp; omega
  | a :: l, lo, hi, h, hr, ha => by
    rw [Rise.cons] at hr
    have h1 := ha a (by simp)
    have := rise_len (l := l) (lo := a.h) (hi := hi) h1.2 hr.2 fun s hs => ⟨(hr.1 s hs).1, (ha s (by simp [hs])).2⟩
    simp only [List.length_cons]
    omega
structure HInv (hs : List Hdr) (x : Cli) : Prop where
  c : x.c = [97]
  k : x.k = [107, 101, 121]
  p : x.p = 1000
  f : x.f = false
  r : Rise x.l
  ne : x.l ≠ []
  of : ∀ s ∈ x.l, ∃ j, ∃ hj : j < hs.length, s = stOf hs[j]
theorem HInv.len {hs : List Hdr} {B : Int} {x : Cli} (h : HInv hs x) (ho : Hon hs B) : x.l.length ≤ hs.length := by
  have := rise_len (lo := 0) (hi := hs.length) (by omega) h.r fun s hs' => by
    obtain ⟨j, hj, rfl⟩ := h.of s hs'
    have := (ho.at_ j hj).2.1
    simp only [stOf]
    omega
  omega
theorem HInv.same {hs : List Hdr} {B : Int} {x : Cli} (h : HInv hs x) (ho : Hon hs B) {s : Sta} {i : Nat} (hi : i < hs.length) (hs' : s ∈ x.l) (he : s.h = hs[i].h) : s = stOf hs[i] := by
  obtain ⟨j, hj, rfl⟩ := h.of s hs'
  have h1 := (ho.at_ j hj).2.1
  have h2 := (ho.at_ i hi).2.1
  simp only [stOf] at he
  obtain rfl : j = i := by omega
  rfl
theorem HInv.put {hs : List Hdr} {B : Int} {x : Cli} (h : HInv hs x) (ho : Hon hs B) (h30 : hs.length ≤ 30) {i : Nat} (hi : i < hs.length) : HInv hs (putC x (stOf hs[i])) ∧ findC (putC x (stOf hs[i])).l hs[i].h = some (stOf hs[i]) := by
  have hlen := h.len ho
  by_cases h1 : atIs x.l hs[i].h = true
  · have hl : atI x.l hs[i].h < x.l.length := by
      rcases Nat.lt_or_ge (atI x.l hs[i].h) x.l.length with h | h
      · exact h
      · rw [atIs_out (by omega)] at h1; cases h1
    have hg : x.l.getD (atI x.l hs[i].h) zeroS = x.l[atI x.l hs[i].h] := by simp [List.getD, hl]
    have h2 : x.l[atI x.l hs[i].h].h = hs[i].h := by rw [atIs_in hl] at h1; exact of_decide_eq_true h1
    have h3 := h.same ho hi (List.getElem_mem hl) h2
    rw [put_same (s := stOf hs[i]) h1 (hg.trans h3)]
    refine ⟨h, ?_⟩
    unfold findC
    rw [if_pos h1, hg, h3]
  · have h1 : atIs x.l (stOf hs[i]).h = false := by
      have : atIs x.l hs[i].h = false := by simpa using h1
      exact this
    have hb : badAt x.l (stOf hs[i]) (atI x.l (stOf hs[i]).h) = false := by
      obtain ⟨p1, _⟩ := at_parts (stOf hs[i]).h h.r
      have p3 := at_above h.r h1
      rw [← Bool.not_eq_true, bad_iff h.r h1]
      rintro (⟨s, hs1, hs2⟩ | ⟨s, hs1, hs2⟩)
      · have h4 := p1 s hs1
        obtain ⟨j, hj, rfl⟩ := h.of s (List.mem_of_mem_take hs1)
        have e1 := (ho.at_ j hj).2.1
        have e2 := (ho.at_ i hi).2.1
        simp only [stOf] at h4 hs2
        have := ho.up j i hj hi (by omega)
        omega
      · have h4 := p3 s hs1
        obtain ⟨j, hj, rfl⟩ := h.of s (List.mem_of_mem_drop hs1)
        have e1 := (ho.at_ j hj).2.1
        have e2 := (ho.at_ i hi).2.1
        simp only [stOf] at h4 hs2
        have := ho.up i j hi hj (by omega)
        omega
    have hle := atI_le x.l (stOf hs[i]).h
    have hr := h.r.ins h1 hb
    rw [put_ins h1 hb]
    have hins : insS x.l (stOf hs[i]) = x.l.take (atI x.l (stOf hs[i]).h) ++ stOf hs[i] :: x.l.drop (atI x.l (stOf hs[i]).h) := by
      unfold insS
      rw [show x.l.length + 1 - 32 = 0 by omega, List.drop_zero]
    rw [hins]
    refine ⟨⟨h.c, h.k, h.p, h.f, hr, by simp, fun s hs1 => ?_⟩, ?_⟩
    · rcases List.mem_append.1 hs1 with hs1 | hs1
      · exact h.of s (List.mem_of_mem_take hs1)
      · rcases List.mem_cons.1 hs1 with rfl | hs1
        · exact ⟨i, hi, rfl⟩
        · exact h.of s (List.mem_of_mem_drop hs1)
    · rw [← findR_eq _ hr]
      obtain ⟨p1, _⟩ := at_parts (stOf hs[i]).h h.r
      unfold findR
      rw [List.find?_append, List.find?_eq_none.2 (fun s hs1 => by
        have := p1 s hs1
        simp only [stOf] at this
        simp
        omega), Option.none_or, List.find?_cons]
      simp [stOf]
theorem HInv.ok {hs : List Hdr} {B : Int} {x : Cli} (h : HInv hs x) (ho : Hon hs B) (h30 : hs.length ≤ 30) (hB : B ≤ 1000000) : CliOk x ∧ 0 ≤ (latC x.l).t := by
  have hlen := h.len ho
  have ht : 0 ≤ (latC x.l).t ∧ (latC x.l).t ≤ 1000000 := by
    rcases lastD_mem x.l zeroS with h1 | h1
    · unfold latC
      rw [h1]
      exact ⟨by decide, by decide⟩
    · obtain ⟨j, hj, e⟩ := h.of _ h1
      have := (ho.at_ j hj).2.2
      unfold latC
      rw [e]
      simp only [stOf]
      omega
  exact ⟨⟨by omega, by rw [h.k]; decide, ⟨by omega, by omega⟩, by rw [h.p]; decide, by rw [h.p]; decide⟩, ht.1⟩
theorem HInv.upd {hs : List Hdr} {B : Int} {x : Cli} (h : HInv hs x) (ho : Hon hs B) (h30 : hs.length ≤ 30) (hB : B ≤ 1000000) {i : Nat} (hi : i < hs.length) : updE x hs[i] (sealOf [107, 101, 121] hs[i]) 0 = 0 ∧ updC x hs[i] (sealOf [107, 101, 121] hs[i]) 0 = putC x (stOf hs[i]) := by
  obtain ⟨_, h0⟩ := h.ok ho h30 hB
  obtain ⟨a, b, c, d⟩ := ho.at_ i hi
  have h3 := upd_ok (x := x) (h := hs[i]) (now := 0) (by
    unfold actC
    rw [h.f, h.p]
    simp
    omega) (by
    unfold chkH
    rw [a]
    simp
    omega) (a.trans h.c.symm)
  rw [h.k] at h3
  exact h3
theorem tmod_rng2 (a : Int) {b : Int} (h : 0 < b) : -b < a.tmod b ∧ a.tmod b < b := ⟨Int.lt_tmod_of_pos a h, Int.tmod_lt_of_pos a h⟩
theorem new_one {k : Bs} {p : Int} {x : Hdr} (hk : k.length ≤ 64) (hp : 1 ≤ p ∧ p ≤ 1099511627776) (hc : chkH x = true) : newE k p x = 0 ∧ newR k p x = newC k p x := by
  have hm : mayC (newC k p x) = true := may_ok ⟨hk, hp.1, hp.2, Nat.le_refl _, by simp [newC]⟩ fun j hj => by
    obtain rfl : j = 0 := by simp [newC] at hj; exact hj
    have h9 : chkH ⟨(newC k p x).c, ((newC k p x).l[0]'hj).h, ((newC k p x).l[0]'hj).t, ((newC k p x).l[0]'hj).r⟩ = true := hc
    rw [mayAt_eq hj, h9]
    rfl
  unfold newE newR
  rw [if_pos hm, if_pos hm]
  exact ⟨rfl, rfl⟩
class Ints (xs : List AV) (l : outParam (List Int)) : Prop where
  out : xs = l.map int
instance {l : List Int} : Ints (l.map int) l := ⟨rfl⟩
set_option maxHeartbeats 1000000 in
instance fnClientHonest {n : Int} {st od : List Int} {xs ys : List AV} {id id2 : Option Value} [hx : Ints xs st] [hy : Ints ys od] : Ans Tryd.prog GL 11 [int n, .sl 1 xs id, .sl 1 ys id2] True (boo true) := ⟨fun _ => by
  have hxo := hx.out
  subst hxo
  have hyo := hy.out
  subst hyo
  have hm1 : (st.map int).length = st.length := List.length_map _
  have hm2 : (od.map int).length = od.length := List.length_map _
  refine spec_enter Tryd.func11 rfl Tryd.ntmps11 rfl (fun _ hs => ?_)
  refine ac_bnd 1 (fun hb => ?_)
  have hb := maxLen_le hb
  repeat' (first | refine W ?_ | refine op2 ?_ | refine ob4 ?_ | refine ob2 (fun _ => ?_) | intro _ | simp only [List.set])
  have t1 := tmod_rng2 n (b := 30) (by omega)
  refine al_tmod ?_
  generalize n.tmod 30 = r1 at *
  repeat' (first | refine W ?_ | refine op2 ?_ | refine ob4 ?_ | refine ob2 (fun _ => ?_) | intro _ | simp only [List.set])
  obtain ⟨N, hN⟩ : ∃ N : Nat, 1 + (r1 + 30) % 30 = (N : Int) := ⟨(1 + (r1 + 30) % 30).toNat, by omega⟩
  have hN1 : 1 ≤ N ∧ N ≤ 30 := by omega
  rw [hN]
  refine ac_as 9 (Imp.nil (k := 35)) ?_
  refine ac_st (fun ok w h => h.full 60 35 none 0) ?_
  refine ac_loop (α := Nat × Value × List Hdr × Int) (fun q => [(1, .sl 1 (st.map int) id), (2, .sl 1 (od.map int) id2), (7, boo true), (8, int N), (9, .sl 35 (q.2.2.1.map hdrA) (some q.2.1)), (10, int q.2.2.2), (11, int q.1)]) (fun q => [.tail 60 35 q.2.1])
    (fun q => q.1 ≤ N + 1 ∧ q.2.2.1.length + 1 = q.1 ∧ Hon q.2.2.1 q.2.2.2 ∧ 0 ≤ q.2.2.2 ∧ q.2.2.2 ≤ 3 * q.1) (fun q => N + 1 - q.1) (1, .slice none 0 0, [], 0) ⟨rfl, rfl, rfl, rfl, rfl, rfl, rfl, trivial⟩ (List.Sublist.refl _) ⟨by dsimp only; omega, rfl, Hon.nil, by decide, by decide⟩ ?_
  rintro ⟨i, v, hs', tm⟩ ⟨hi, hl, ho, ht0, ht⟩
  dsimp only at hi hl ho ht0 ht ⊢
  have hmh : (hs'.map hdrA).length = hs'.length := List.length_map _
  repeat' (first | refine W ?_ | refine op2 ?_ | refine ob4 ?_ | refine ob2 (fun _ => ?_) | intro _ | simp only [List.set])
  refine ac_cond (fun hlt => ?_) (fun hlt => ?_)
  · repeat' (first | refine W ?_ | refine op2 ?_ | refine ob4 ?_ | refine ob2 (fun _ => ?_) | intro _ | simp only [List.set])
    refine ac_mid (α := { d : Int // 0 ≤ d ∧ d ≤ 3 }) (fun z => [(1, .sl 1 (st.map int) id), (2, .sl 1 (od.map int) id2), (7, boo true), (8, int N), (9, .sl 35 (hs'.map hdrA) (some v)), (10, int (tm + z.1)), (11, int i)]) (fun _ => [.tail 60 35 v]) ?_ (fun z => ?_)
    · refine ac_cond (fun h2 => ?_) (fun h2 => ?_)
      · have hil : i < st.length := by omega
        have s1 := Int.emod_nonneg st[i] (b := 4) (by omega)
        have s2 := Int.emod_lt_of_pos st[i] (b := 4) (by omega)
        repeat' (first | refine W ?_ | refine op2 ?_ | refine ob4 ?_ | refine ob2 (fun _ => ?_) | intro _ | simp only [List.set])
        exact ae_cut ⟨st[i] % 4, s1, by omega⟩ ⟨rfl, rfl, rfl, rfl, rfl, rfl, rfl, trivial⟩ (List.Sublist.refl _)
      · repeat' (first | refine W ?_ | refine op2 ?_ | refine ob4 ?_ | refine ob2 (fun _ => ?_) | intro _ | simp only [List.set])
        exact ae_cut ⟨0, by decide, by decide⟩ ⟨rfl, rfl, rfl, rfl, rfl, by dsimp only; rw [Int.add_zero]; rfl, rfl, trivial⟩ (List.Sublist.refl _)
    · obtain ⟨d, d1, d2⟩ := z
      dsimp only
      repeat' (first | refine W ?_ | refine op2 ?_ | refine ob4 ?_ | refine ob2 (fun _ => ?_) | intro _ | simp only [List.set])
      rw [u8w_int]
      repeat' (first | refine W ?_ | refine op2 ?_ | refine ob4 ?_ | refine ob2 (fun _ => ?_) | intro _ | simp only [List.set])
      refine al_append (fun v' => ?_)
      repeat' (first | refine W ?_ | refine op2 ?_ | refine ob4 ?_ | refine ob2 (fun _ => ?_) | intro _ | simp only [List.set])
      have ho' := ho.snoc (t := tm + d) (r := oneH (UInt8.ofNat ((i : Int) % 256).toNat)) (by omega) ht0
      refine ae_as 9 (v' := .sl 35 ((hs' ++ [(⟨[97], (hs'.length : Int) + 1, tm + d, oneH (UInt8.ofNat ((i : Int) % 256).toNat)⟩ : Hdr)]).map hdrA) (some v')) (Imp.of_eq ?_) ?_
      · rw [List.map_append, ← hl]
        rfl
      refine ae_round (i + 1, v', hs' ++ [(⟨[97], (hs'.length : Int) + 1, tm + d, oneH (UInt8.ofNat ((i : Int) % 256).toNat)⟩ : Hdr)], tm + d) ⟨rfl, rfl, rfl, rfl, rfl, rfl, rfl, trivial⟩ ?_ ⟨by dsimp only; omega, by simp; omega, ho', by dsimp only; omega, by dsimp only; omega⟩ (by dsimp only; omega)
      repeat (first | exact List.nil_sublist _ | exact List.Sublist.refl _ | apply List.Sublist.cons_cons | apply List.Sublist.cons)
  · obtain rfl : i = N + 1 := by omega
    obtain rfl : hs'.length = N := by omega
    have hp0 : 0 < hs'.length := by omega
    obtain ⟨g1, g2, g3, g4⟩ := ho.at_ 0 hp0
    have hchk : chkH hs'[0] = true := by
      unfold chkH
      rw [g1]
      simp
      omega
    obtain ⟨w1, w2⟩ := new_one (k := [107, 101, 121]) (p := 1000) (by decide) (by decide) hchk
    have hi0 : HInv hs' (newC [107, 101, 121] 1000 hs'[0]) := ⟨g1, rfl, rfl, rfl, by simp [newC, Rise], by simp [newC], fun s hs1 => by
      simp [newC] at hs1
      exact ⟨0, hp0, hs1⟩⟩
    generalize newC [107, 101, 121] 1000 hs'[0] = K at *
    repeat' (first | refine W ?_ | refine op2 ?_ | refine ob4 ?_ | refine ob2 (fun _ => ?_) | intro _ | simp only [List.set])
    rw [show newE [107, 101, 121] 1000 ⟨hs'[0].c, hs'[0].h, hs'[0].t, hs'[0].r⟩ = 0 from w1, show newR [107, 101, 121] 1000 ⟨hs'[0].c, hs'[0].h, hs'[0].t, hs'[0].r⟩ = K from w2]
    clear w1 w2 hchk g1 g2 g3 g4
    repeat' (first | refine W ?_ | refine op2 ?_ | refine ob4 ?_ | refine ob2 (fun _ => ?_) | intro _ | simp only [List.set] | refine gdT ?_ | refine gdF ?_ | refine cdT ?_ | refine cdF ?_ | fail)
    rename_i g13
    refine ac_loop (α := Nat × Cli) (fun q => [(2, .sl 1 (od.map int) id2), (7, boo true), (8, int hs'.length), (9, .sl 35 (hs'.map hdrA) (some v)), (13, ptr g13), (15, int q.1)]) (fun q => [.var g13 55 (cliA q.2)])
      (fun q => q.1 ≤ 40 ∧ HInv hs' q.2) (fun q => 40 - q.1) (0, K) ⟨rfl, rfl, rfl, rfl, rfl, rfl, trivial⟩ ?_ ⟨Nat.zero_le _, hi0⟩ ?_
    · repeat (first | exact List.nil_sublist _ | exact List.Sublist.refl _ | apply List.Sublist.cons_cons | apply List.Sublist.cons)
    clear hi0 K
    rintro ⟨i, K⟩ ⟨hi, hK⟩
    dsimp only at hi hK ⊢
    repeat' (first | refine W ?_ | refine op2 ?_ | refine ob4 ?_ | refine ob2 (fun _ => ?_) | intro _ | simp only [List.set])
    refine gu1 (fun h1 => ?_) (fun h1 => ?_)
    · repeat' (first | refine W ?_ | refine op2 ?_ | refine ob4 ?_ | refine ob2 (fun _ => ?_) | intro _ | simp only [List.set])
      refine ac_cond (fun h2 => ?_) (fun h2 => ?_)
      · have hil : i < od.length := by omega
        repeat' (first | refine W ?_ | refine op2 ?_ | refine ob4 ?_ | refine ob2 (fun _ => ?_) | intro _ | simp only [List.set])
        have t2 := tmod_rng2 od[i] (b := (hs'.length : Int)) (by omega)
        refine al_tmod ?_
        generalize od[i].tmod (hs'.length : Int) = r2 at *
        repeat' (first | refine W ?_ | refine op2 ?_ | refine ob4 ?_ | refine ob2 (fun _ => ?_) | intro _ | simp only [List.set])
        obtain ⟨j, hj⟩ : ∃ j : Nat, (r2 + (hs'.length : Int)) % (hs'.length : Int) = (j : Int) := ⟨((r2 + (hs'.length : Int)) % (hs'.length : Int)).toNat, by
          have := Int.emod_nonneg (r2 + (hs'.length : Int)) (b := (hs'.length : Int)) (by omega)
          omega⟩
        have hjn : j < hs'.length := by
          have := Int.emod_lt_of_pos (r2 + (hs'.length : Int)) (b := (hs'.length : Int)) (by omega)
          omega
        rw [hj]
        obtain ⟨g1, g2, g3, g4⟩ := ho.at_ j hjn
        have hp : CliOk K ∧ hs'[j].h ≤ 9223372036854775807 ∧ hs'[j].t ≤ 9223372036854775807 := ⟨(hK.ok ho (by omega) (by omega)).1, by omega, by omega⟩
        have hu := hK.upd ho (by omega) (by omega) hjn
        obtain ⟨hK', hf⟩ := hK.put ho (by omega) hjn
        repeat' (first | refine W ?_ | refine op2 ?_ | refine ob4 ?_ | refine ob2 (fun _ => ?_) | intro _ | simp only [List.set])
        rw [hu.1, hu.2]
        generalize putC K (stOf hs'[j]) = K' at *
        repeat' (first | refine W ?_ | refine op2 ?_ | refine ob4 ?_ | refine ob2 (fun _ => ?_) | intro _ | simp only [List.set])
        rw [hf, hK'.f]
        simp only [Option.getD_some, Option.isSome_some, stOf]
        repeat' (first | refine W ?_ | refine op2 ?_ | refine ob4 ?_ | refine ob2 (fun _ => ?_) | intro _ | simp only [List.set] | refine gdT ?_ | refine gdF ?_ | refine cdT ?_ | refine cdF ?_ | fail)
        refine ae_round (i + 1, K') ⟨rfl, rfl, rfl, rfl, rfl, rfl, trivial⟩ ?_ ⟨by omega, hK'⟩ (by dsimp only; omega)
        repeat (first | exact List.nil_sublist _ | exact List.Sublist.refl _ | apply List.Sublist.cons_cons | apply List.Sublist.cons)
      · repeat' (first | refine W ?_ | refine op2 ?_ | refine ob4 ?_ | refine ob2 (fun _ => ?_) | intro _ | simp only [List.set])
        refine reE ?_
        rfl
    · repeat' (first | refine W ?_ | refine op2 ?_ | refine ob4 ?_ | refine ob2 (fun _ => ?_) | intro _ | simp only [List.set])
      refine reE ?_
      rfl⟩
end Go.Proofs.YtkijoddconipoaaDoor
