/- Law 14: a law, walked. -/
import Derived.Test.YtkijoddconipoaaDoorP1
import Derived.Test.YtkijoddconipoaaDoorP2
import Derived.Test.YtkijoddconipoaaDoorP3
import Derived.Test.YtkijoddconipoaaDoorP4
import Derived.Test.YtkijoddconipoaaDoorQ1
import Derived.Test.YtkijoddconipoaaDoorQ2
import Derived.Test.YtkijoddconipoaaDoorK1
import Derived.Test.YtkijoddconipoaaDoorQ3
import Derived.Test.YtkijoddconipoaaDoorQ5
import Derived.Test.YtkijoddconipoaaDoorR1
import Derived.Test.YtkijoddconipoaaDoorR2
import Derived.Test.YtkijoddconipoaaDoorR3
import Derived.Test.YtkijoddconipoaaDoorR4
namespace Go.Proofs.YtkijoddconipoaaDoor
open Go Go.RowKit Tw Av
class Steps14 (xs : List AV) (l : outParam (List Stp14)) : Prop where
  out : xs = l.map s14A
instance {l : List Stp14} : Steps14 (l.map s14A) l := ⟨rfl⟩
structure CInv (B : Int) (x : Cli) : Prop where
  r : Rise x.l
  n : x.l.length ≤ 32
  t : ∀ s ∈ x.l, 0 ≤ s.t ∧ s.t ≤ B
theorem put_ckp (x : Cli) (s : Sta) : (putC x s).c = x.c ∧ (putC x s).k = x.k ∧ (putC x s).p = x.p := by
  unfold putC
  split
  · exact ⟨rfl, rfl, rfl⟩
  · split
    · exact ⟨rfl, rfl, rfl⟩
    · exact ⟨rfl, rfl, rfl⟩
theorem insS_mem {l : List Sta} {s x : Sta} (h : x ∈ insS l s) : x = s ∨ x ∈ l := by
  unfold insS at h
  have h := List.mem_of_mem_drop h
  rcases List.mem_append.1 h with h | h
  · exact .inr (List.mem_of_mem_take h)
  · rcases List.mem_cons.1 h with h | h
    · exact .inl h
    · exact .inr (List.mem_of_mem_drop h)
theorem insS_len {l : List Sta} {s : Sta} (h : l.length ≤ 32) : (insS l s).length ≤ 32 := by
  have := atI_le l s.h
  simp only [insS, List.length_drop, List.length_append, List.length_take, List.length_cons]
  omega
theorem CInv.put {B : Int} {x : Cli} {s : Sta} (h : CInv B x) (hs : 0 ≤ s.t ∧ s.t ≤ B) : CInv B (putC x s) := by
  by_cases h1 : atIs x.l s.h = true
  · by_cases h2 : x.l.getD (atI x.l s.h) zeroS = s
    · rw [put_same h1 h2]; exact h
    · rw [put_frz1 h1 h2]; exact ⟨h.r, h.n, h.t⟩
  · have h1 : atIs x.l s.h = false := by simpa using h1
    by_cases h2 : badAt x.l s (atI x.l s.h) = true
    · rw [put_frz2 h1 h2]; exact ⟨h.r, h.n, h.t⟩
    · have h2 : badAt x.l s (atI x.l s.h) = false := by simpa using h2
      rw [put_ins h1 h2]
      refine ⟨(h.r.ins h1 h2).sublist (List.drop_sublist _ _), insS_len h.n, fun y hy => ?_⟩
      rcases insS_mem hy with rfl | hy
      · exact hs
      · exact h.t y hy
theorem lastD_mem {α : Type} : ∀ (l : List α) (a : α), l.getLastD a = a ∨ l.getLastD a ∈ l
  | [], _ => .inl rfl
  | b :: l, a => by
    rw [List.getLastD_cons]
    rcases lastD_mem l b with h | h
    · exact .inr (by rw [h]; exact List.mem_cons_self)
    · exact .inr (List.mem_cons_of_mem _ h)
theorem CInv.lat {B : Int} {x : Cli} (h : CInv B x) (hB : 0 ≤ B) : 0 ≤ (latC x.l).t ∧ (latC x.l).t ≤ B := by
  rcases lastD_mem x.l zeroS with h1 | h1
  · unfold latC
    rw [h1]
    exact ⟨Int.le_refl _, hB⟩
  · exact h.t _ h1
theorem upd_inv {B : Int} {x : Cli} {h : Hdr} {mac : Hsh} {now : Int} (hi : CInv B x) (ht : 0 ≤ h.t ∧ h.t ≤ B) (h0 : updE x h mac now = 0) : CInv B (updC x h mac now) ∧ (updC x h mac now).k = x.k ∧ (updC x h mac now).p = x.p ∧ (updC x h mac now).c = x.c := by
  unfold updC
  rw [if_pos h0]
  obtain ⟨e1, e2, e3⟩ := put_ckp x (stOf h)
  exact ⟨hi.put (s := stOf h) ht, e2, e3, e1⟩
theorem new_inv {B : Int} {k : Bs} {p : Int} {x : Hdr} (h : newE k p x = 0) (ht : 0 ≤ x.t ∧ x.t ≤ B) : newR k p x = newC k p x ∧ CInv B (newC k p x) := by
  unfold newE at h
  unfold newR
  by_cases hm : mayC (newC k p x) = true
  · rw [if_pos hm]
    refine ⟨rfl, by simp [newC, Rise], by simp [newC], fun s hs => ?_⟩
    simp [newC] at hs
    subst hs
    exact ht
  · rw [if_neg hm] at h
    cases h
set_option maxHeartbeats 2000000 in
instance fnClientPlays {p : Int} {f : Bool} {c : Bs} {o : Bool} {h t n : Int} {r : UInt8} {l : List Stp14} {xs : List AV} {id : Option Value} [hx : Steps14 xs l] : Ans Tryd.prog GL 10 [int p, .agg 7 [boo o, boo f, str c, int h, int t, int n, u8A r], .sl 7 xs id] True (boo true) := ⟨fun _ => by
  have hxo := hx.out
  subst hxo
  have hm : (l.map s14A).length = l.length := List.length_map _
  have q1 := Int.emod_nonneg p (b := 128) (by omega)
  have q2 := Int.emod_lt_of_pos p (b := 128) (by omega)
  refine spec_enter Tryd.func10 rfl Tryd.ntmps10 rfl (fun _ hs => ?_)
  repeat' (first | refine W ?_ | refine op2 ?_ | refine ob4 ?_ | refine ob2 (fun _ => ?_) | intro _ | simp only [List.set])
  refine ac_cond (fun hh => absurd rfl hh) (fun _ => ?_)
  repeat' (first | refine W ?_ | refine op2 ?_ | refine ob4 ?_ | refine ob2 (fun _ => ?_) | intro _ | simp only [List.set])
  have hH1 : 0 ≤ (hd14 ⟨false, f, c, h, t, n, r⟩).t ∧ (hd14 ⟨false, f, c, h, t, n, r⟩).t ≤ 63 := by
    have h3 := Int.emod_nonneg t (b := 64) (by omega)
    have h4 := Int.emod_lt_of_pos t (b := 64) (by omega)
    exact ⟨h3, by show t % 64 ≤ 63; omega⟩
  have hnew := new_inv (k := [107, 101, 121]) (p := p % 128) (x := hd14 ⟨false, f, c, h, t, n, r⟩) (B := 63)
  refine ac_cond (fun hne => ?_) (fun he => ?_)
  · repeat' (first | refine W ?_ | refine op2 ?_ | refine ob4 ?_ | refine ob2 (fun _ => ?_) | intro _ | simp only [List.set])
    refine reE ?_
    rfl
  obtain ⟨e1, hi1⟩ := hnew (Classical.not_not.1 he) hH1
  rw [show newR [107, 101, 121] (p % 128) { c := (hd14 ⟨false, f, c, h, t, n, r⟩).c, h := (hd14 ⟨false, f, c, h, t, n, r⟩).h, t := (hd14 ⟨false, f, c, h, t, n, r⟩).t, r := (hd14 ⟨false, f, c, h, t, n, r⟩).r } = _ from e1]
  generalize hK : newC [107, 101, 121] (p % 128) (hd14 ⟨false, f, c, h, t, n, r⟩) = K at *
  have hkp : K.k = [107, 101, 121] ∧ K.p = p % 128 := by rw [← hK]; exact ⟨rfl, rfl⟩
  clear hK he e1 hnew hH1
  repeat' (first | refine W ?_ | refine op2 ?_ | refine ob4 ?_ | refine ob2 (fun _ => ?_) | intro _ | simp only [List.set])
  rename_i g4 g8 g10 hnn
  clear hnn
  refine ac_loop (α := Nat × Cli) (fun q => [(2, .sl 7 (l.map s14A) id), (7, boo true), (8, ptr g8), (10, ptr g10), (13, int q.1)]) (fun q => [.var g10 55 (cliA q.2), .var g8 55 (cliA q.2)])
    (fun q => q.1 ≤ 40 ∧ CInv 63 q.2 ∧ q.2.k = [107, 101, 121] ∧ q.2.p = p % 128) (fun q => 40 - q.1) (0, K) ⟨rfl, rfl, rfl, rfl, rfl, trivial⟩ ?_ ⟨Nat.zero_le _, hi1, hkp⟩ ?_
  · repeat (first | exact List.nil_sublist _ | exact List.Sublist.refl _ | apply List.Sublist.cons_cons | apply List.Sublist.cons)
  clear hi1 hkp K
  rintro ⟨i, K⟩ ⟨hi, hK, hk, hkp⟩
  dsimp only at hi hK hk hkp ⊢
  repeat' (first | refine W ?_ | refine op2 ?_ | refine ob4 ?_ | refine ob2 (fun _ => ?_) | intro _ | simp only [List.set])
  refine gu1 (fun h1 => ?_) (fun h1 => ?_)
  · repeat' (first | refine W ?_ | refine op2 ?_ | refine ob4 ?_ | refine ob2 (fun _ => ?_) | intro _ | simp only [List.set])
    refine ac_cond (fun h2 => ?_) (fun h2 => ?_)
    · have hil : i < l.length := by omega
      have hl1 := hK.lat (by decide)
      have hp1 : CliOk K := ⟨Nat.le_trans hK.n (by decide), by rw [hk]; decide, ⟨by omega, by omega⟩, by omega, by omega⟩
      have hH1 : 0 ≤ (hd14 l[i]).t ∧ (hd14 l[i]).t ≤ 63 := by
        have h3 := Int.emod_nonneg l[i].t (b := 64) (by omega)
        have h4 := Int.emod_lt_of_pos l[i].t (b := 64) (by omega)
        exact ⟨h3, by show l[i].t % 64 ≤ 63; omega⟩
      have hH2 : 1 ≤ (hd14 l[i]).h ∧ (hd14 l[i]).h ≤ 32 := by
        have h3 := Int.emod_nonneg l[i].h (b := 32) (by omega)
        have h4 := Int.emod_lt_of_pos l[i].h (b := 32) (by omega)
        exact ⟨by show 1 ≤ 1 + l[i].h % 32; omega, by show 1 + l[i].h % 32 ≤ 32; omega⟩
      have hp2 : CliOk K ∧ (hd14 l[i]).h ≤ 9223372036854775807 ∧ (hd14 l[i]).t ≤ 9223372036854775807 := ⟨hp1, by omega, by omega⟩
      have hp3 : CliOk K ∧ (Rise K.l ∧ K.l.length ≤ 32) ∧ (hd14 l[i]).h ≤ 9223372036854775807 ∧ (hd14 l[i]).t ≤ 9223372036854775807 := ⟨hp1, ⟨hK.r, hK.n⟩, by omega, by omega⟩
      have hp4 : -4611686018427387904 ≤ (latC K.l).t ∧ (latC K.l).t ≤ 4611686018427387904 ∧ -4611686018427387904 ≤ K.p ∧ K.p < 4611686018427387904 := ⟨by omega, by omega, by omega, by omega⟩
      repeat' (first | refine W ?_ | refine op2 ?_ | refine ob4 ?_ | refine ob2 (fun _ => ?_) | intro _ | simp only [List.set])
      have hui := upd_inv (x := K) (h := hd14 l[i]) (mac := mac14 l[i]) (now := l[i].n % 128) hK hH1
      generalize updC K (hd14 l[i]) (mac14 l[i]) (l[i].n % 128) = U at *
      generalize updE K (hd14 l[i]) (mac14 l[i]) (l[i].n % 128) = E at *
      rw [decide_eq_false (show ¬ E ≠ E from fun h => h rfl)]
      repeat' (first | refine W ?_ | refine op2 ?_ | refine ob4 ?_ | refine ob2 (fun _ => ?_) | intro _ | simp only [List.set])
      rw [findR_eq _ hK.r, sta_eq, decide_eq_true rfl]
      repeat' (first | refine W ?_ | refine op2 ?_ | refine ob4 ?_ | refine ob2 (fun _ => ?_) | intro _ | simp only [List.set])
      refine ac_cond (fun h0 => ?_) (fun h0 => ?_)
      · obtain ⟨u1, u2, u3, u4⟩ := hui h0
        repeat' (first | refine W ?_ | refine op2 ?_ | refine ob4 ?_ | refine ob2 (fun _ => ?_) | intro _ | simp only [List.set])
        refine ae_round (i + 1, U) ⟨rfl, rfl, rfl, rfl, rfl, trivial⟩ ?_ ⟨by omega, u1, u2.trans hk, u3.trans hkp⟩ (by dsimp only; omega)
        repeat (first | exact List.nil_sublist _ | exact List.Sublist.refl _ | apply List.Sublist.cons_cons | apply List.Sublist.cons)
      · repeat' (first | refine W ?_ | refine op2 ?_ | refine ob4 ?_ | refine ob2 (fun _ => ?_) | intro _ | simp only [List.set])
        refine ae_round (i + 1, K) ⟨rfl, rfl, rfl, rfl, rfl, trivial⟩ ?_ ⟨by omega, hK, hk, hkp⟩ (by dsimp only; omega)
        repeat (first | exact List.nil_sublist _ | exact List.Sublist.refl _ | apply List.Sublist.cons_cons | apply List.Sublist.cons)
    · repeat' (first | refine W ?_ | refine op2 ?_ | refine ob4 ?_ | refine ob2 (fun _ => ?_) | intro _ | simp only [List.set])
      refine reE ?_
      rfl
  · repeat' (first | refine W ?_ | refine op2 ?_ | refine ob4 ?_ | refine ob2 (fun _ => ?_) | intro _ | simp only [List.set])
    refine reE ?_
    rfl⟩
end Go.Proofs.YtkijoddconipoaaDoor
