/- Law 14: clients' bytes. -/
import Derived.Test.YtkijoddconipoaaGreatDoorP1
import Derived.Test.YtkijoddconipoaaGreatDoorP2
import Derived.Test.YtkijoddconipoaaGreatDoorP3
import Derived.Test.YtkijoddconipoaaGreatDoorP4
import Derived.Test.YtkijoddconipoaaGreatDoorP5
import Derived.Test.YtkijoddconipoaaGreatDoorQ1
import Derived.Test.YtkijoddconipoaaGreatDoorQ2
import Derived.Test.YtkijoddconipoaaGreatDoorK1
import Derived.Test.YtkijoddconipoaaGreatDoorQ3
import Derived.Test.YtkijoddconipoaaGreatDoorQ5
import Derived.Test.YtkijoddconipoaaGreatDoorQ13
import Derived.Test.YtkijoddconipoaaGreatDoorQ14
import Derived.Test.YtkijoddconipoaaGreatDoorR1
import Derived.Test.YtkijoddconipoaaGreatDoorR2
import Derived.Test.YtkijoddconipoaaGreatDoorR3
import Derived.Test.YtkijoddconipoaaGreatDoorR17
import Derived.Test.YtkijoddconipoaaGreatDoorR4
import Derived.Test.YtkijoddconipoaaGreatDoorR5
namespace Go.Proofs.YtkijoddconipoaaGreatDoor
open Go Go.RowKit Tw Av
/-- a client that headers made -/
structure RInv (x : Cli) : Prop where
  r : Rise x.l
  n : 1 ≤ x.l.length ∧ x.l.length ≤ 32
  c : ∀ s ∈ x.l, chkH (hdOf x.c s) = true
  k : x.k = [107, 101, 121]
  p : x.p = 100
theorem RInv.may {x : Cli} (h : RInv x) : mayC x = true := may_of (by rw [h.k]; decide) (by rw [h.p]; decide) h.n h.r h.c
theorem upd_chk {x : Cli} {h : Hdr} {mac : Hsh} {now : Int} (h0 : updE x h mac now = 0) : chkH h = true ∧ h.c = x.c := by
  unfold updE at h0
  split at h0
  · cases h0
  split at h0
  · cases h0
  · rename_i hn
    constructor
    · cases hc : chkH h
      · exact absurd (.inl hc) hn
      · rfl
    · exact Classical.byContradiction fun hc => hn (.inr hc)
theorem RInv.put {x : Cli} {s : Sta} (h : RInv x) (hs : chkH (hdOf x.c s) = true) : RInv (putC x s) := by
  by_cases h1 : atIs x.l s.h = true
  · by_cases h2 : x.l.getD (atI x.l s.h) zeroS = s
    · rw [put_same h1 h2]; exact h
    · rw [put_frz1 h1 h2]; exact ⟨h.r, h.n, h.c, h.k, h.p⟩
  · have h1 : atIs x.l s.h = false := by simpa using h1
    by_cases h2 : badAt x.l s (atI x.l s.h) = true
    · rw [put_frz2 h1 h2]; exact ⟨h.r, h.n, h.c, h.k, h.p⟩
    · have h2 : badAt x.l s (atI x.l s.h) = false := by simpa using h2
      rw [put_ins h1 h2]
      refine ⟨(h.r.ins h1 h2).sublist (List.drop_sublist _ _), ⟨?_, insS_len h.n.2⟩, fun y hy => ?_, h.k, h.p⟩
      · have := atI_le x.l s.h
        have := h.n
        simp only [insS, List.length_drop, List.length_append, List.length_take, List.length_cons]
        omega
      · rcases insS_mem hy with rfl | hy
        · exact hs
        · exact h.c y hy
theorem RInv.upd {x : Cli} {h : Hdr} {mac : Hsh} {now : Int} (hi : RInv x) (h0 : updE x h mac now = 0) : RInv (updC x h mac now) := by
  obtain ⟨h1, h2⟩ := upd_chk h0
  unfold updC
  rw [if_pos h0]
  refine hi.put ?_
  rw [← h2]
  exact h1
theorem RInv.w {x : Cli} (h : RInv x) : CliW x := by
  refine ⟨by have := h.n; omega, by rw [h.p]; decide, fun s hs => ?_⟩
  have := chkH_iff.1 (h.c s hs)
  simp only [hdOf] at this
  omega
theorem hd14_chk {f : Bool} {c : Bs} {h t n : Int} {r : UInt8} : chkH (hd14 ⟨false, f, c, h, t, n, r⟩) = true := by
  rw [chkH_iff]
  have h1 := Int.emod_nonneg h (b := 32) (by omega)
  have h2 := Int.emod_lt_of_pos h (b := 32) (by omega)
  have h3 := Int.emod_nonneg t (b := 64) (by omega)
  have h4 := Int.emod_lt_of_pos t (b := 64) (by omega)
  refine ⟨(by decide : 1 ≤ 1), (by decide : 1 ≤ 32), ?_, ?_, ?_, ?_⟩
  · show 1 ≤ 1 + h % 32
    omega
  · show 1 + h % 32 ≤ 1099511627776
    omega
  · show 0 ≤ t % 64
    omega
  · show t % 64 ≤ 1099511627776
    omega
theorem new_rinv {x : Hdr} (h : chkH x = true) : newR [107, 101, 121] 100 x = newC [107, 101, 121] 100 x ∧ RInv (newC [107, 101, 121] 100 x) := by
  have hi : RInv (newC [107, 101, 121] 100 x) := ⟨by simp [newC, Rise], by simp [newC], fun s hs => by
    simp [newC] at hs
    subst hs
    exact h, rfl, rfl⟩
  unfold newR
  rw [if_pos hi.may]
  exact ⟨rfl, hi⟩
theorem cliB_len (x : Cli) : (cliB x).length ≤ 1000000000 := by
  have h1 := tlvT_len 99 x.c
  have h2 := tlvT_len 107 x.k
  have h3 := tlvT_len 112 (digits x.p.toNat)
  have h4 := tlvT_len 102 (digits (if x.f = true then 1 else 0 : Int).toNat)
  have h5 := tlvT_len 115 ((x.l.map fun s => hdrB (hdOf x.c s)).flatMap (tlvT 115))
  have e : cliB x = tlvT 99 x.c ++ tlvT 107 x.k ++ tlvT 112 (digits x.p.toNat) ++ tlvT 102 (digits (if x.f = true then 1 else 0 : Int).toNat) ++ tlvT 115 ((x.l.map fun s => hdrB (hdOf x.c s)).flatMap (tlvT 115)) := rfl
  rw [e]
  simp only [List.length_append]
  omega
set_option maxHeartbeats 2000000 in
instance fnClientBytes {f : Bool} {c s : Bs} {o : Bool} {h t n : Int} {r : UInt8} {l : List Stp14} {xs : List AV} {id : Option Value} [hx : Steps14 xs l] : Ans Tryz.prog GL 3 [.agg 7 [boo o, boo f, str c, int h, int t, int n, u8A r], .sl 7 xs id, str s] True (boo true) := ⟨fun _ => by
  have hxo := hx.out
  subst hxo
  have hm : (l.map s14A).length = l.length := List.length_map _
  refine spec_enter Tryz.func3 rfl Tryz.ntmps3 rfl (fun _ hs => ?_)
  repeat' (first | refine W ?_ | refine op2 ?_ | refine ob4 ?_ | refine ob2 (fun _ => ?_) | intro _ | simp only [List.set])
  obtain ⟨e1, hi1⟩ := new_rinv (hd14_chk (f := f) (c := c) (h := h) (t := t) (n := n) (r := r))
  rw [show newR [107, 101, 121] 100 { c := (hd14 ⟨false, f, c, h, t, n, r⟩).c, h := (hd14 ⟨false, f, c, h, t, n, r⟩).h, t := (hd14 ⟨false, f, c, h, t, n, r⟩).t, r := (hd14 ⟨false, f, c, h, t, n, r⟩).r } = _ from e1]
  generalize newC [107, 101, 121] 100 (hd14 ⟨false, f, c, h, t, n, r⟩) = K at *
  clear e1
  rename_i g3 g8
  refine ac_midB (α := {K : Cli // RInv K}) (fun _ => [(2, str s), (7, boo true), (8, ptr g8)]) (fun K => [.var g8 28 (cliA K.1)]) ?_ (fun K => ?_)
  · refine ac_loop (α := Nat × Cli) (fun q => [(1, .sl 7 (l.map s14A) id), (2, str s), (7, boo true), (8, ptr g8), (10, int q.1)]) (fun q => [.var g8 28 (cliA q.2)])
      (fun q => q.1 ≤ 10 ∧ RInv q.2) (fun q => 10 - q.1) (0, K) ⟨rfl, rfl, rfl, rfl, rfl, trivial⟩ (List.Sublist.cons_cons _ (List.nil_sublist _)) ⟨Nat.zero_le _, hi1⟩ ?_
    clear hi1 K
    rintro ⟨i, K⟩ ⟨hi, hK⟩
    dsimp only at hi hK ⊢
    repeat' (first | refine W ?_ | refine op2 ?_ | refine ob4 ?_ | refine ob2 (fun _ => ?_) | intro _ | simp only [List.set])
    refine gu1 (fun h1 => ?_) (fun h1 => ?_)
    · repeat' (first | refine W ?_ | refine op2 ?_ | refine ob4 ?_ | refine ob2 (fun _ => ?_) | intro _ | simp only [List.set])
      refine ac_cond (fun h2 => ?_) (fun h2 => ?_)
      · have hil : i < l.length := by omega
        have hlt : 0 ≤ (latC K.l).t ∧ (latC K.l).t ≤ 1099511627776 := by
          have hne : K.l ≠ [] := by have := hK.n; intro h; rw [h] at this; simp at this
          have hmem : latC K.l ∈ K.l := by
            rcases lastD_mem K.l zeroS with h0 | h0
            · unfold latC
              rw [← List.dropLast_concat_getLast hne, List.getLastD_concat]
              simp
            · exact h0
          have := chkH_iff.1 (hK.c _ hmem)
          simp only [hdOf] at this
          omega
        have hp1 : CliOk K := ⟨by have := hK.n; omega, by rw [hK.k]; decide, ⟨by omega, by omega⟩, by rw [hK.p]; decide, by rw [hK.p]; decide⟩
        have hH1 : 0 ≤ (hd14 l[i]).t ∧ (hd14 l[i]).t ≤ 63 := by
          have h3 := Int.emod_nonneg l[i].t (b := 64) (by omega)
          have h4 := Int.emod_lt_of_pos l[i].t (b := 64) (by omega)
          exact ⟨h3, by show l[i].t % 64 ≤ 63; omega⟩
        have hH2 : 1 ≤ (hd14 l[i]).h ∧ (hd14 l[i]).h ≤ 32 := by
          have h3 := Int.emod_nonneg l[i].h (b := 32) (by omega)
          have h4 := Int.emod_lt_of_pos l[i].h (b := 32) (by omega)
          exact ⟨by show 1 ≤ 1 + l[i].h % 32; omega, by show 1 + l[i].h % 32 ≤ 32; omega⟩
        have hp3 : CliOk K ∧ (Rise K.l ∧ K.l.length ≤ 32) ∧ (hd14 l[i]).h ≤ 9223372036854775807 ∧ (hd14 l[i]).t ≤ 9223372036854775807 := ⟨hp1, ⟨hK.r, hK.n.2⟩, by omega, by omega⟩
        have e1 : (hd14 ⟨l[i].o, l[i].f, l[i].c, l[i].h, l[i].t, l[i].n, l[i].r⟩).h = (hd14 l[i]).h := rfl
        have e2 : (hd14 ⟨l[i].o, l[i].f, l[i].c, l[i].h, l[i].t, l[i].n, l[i].r⟩).t = (hd14 l[i]).t := rfl
        repeat' (first | refine W ?_ | refine op2 ?_ | refine ob4 ?_ | refine ob2 (fun _ => ?_) | intro _ | simp only [List.set])
        refine ac_cond (fun h0 => ?_) (fun h0 => ?_)
        · repeat' (first | refine W ?_ | refine op2 ?_ | refine ob4 ?_ | refine ob2 (fun _ => ?_) | intro _ | simp only [List.set])
          refine ae_round (i + 1, updC K (hd14 l[i]) (sealOf [107, 101, 121] (hd14 l[i])) 0) ⟨rfl, rfl, rfl, rfl, rfl, trivial⟩ ?_ ⟨by omega, hK.upd h0⟩ (by dsimp only; omega)
          repeat (first | exact List.nil_sublist _ | exact List.Sublist.refl _ | apply List.Sublist.cons_cons | apply List.Sublist.cons)
        · repeat' (first | refine W ?_ | refine op2 ?_ | refine ob4 ?_ | refine ob2 (fun _ => ?_) | intro _ | simp only [List.set])
          refine ae_round (i + 1, K) ⟨rfl, rfl, rfl, rfl, rfl, trivial⟩ ?_ ⟨by omega, hK⟩ (by dsimp only; omega)
          repeat (first | exact List.nil_sublist _ | exact List.Sublist.refl _ | apply List.Sublist.cons_cons | apply List.Sublist.cons)
      · repeat' (first | refine W ?_ | refine op2 ?_ | refine ob4 ?_ | refine ob2 (fun _ => ?_) | intro _ | simp only [List.set])
        exact ae_cut ⟨K, hK⟩ ⟨rfl, rfl, rfl, trivial⟩ (List.Sublist.refl _)
    · repeat' (first | refine W ?_ | refine op2 ?_ | refine ob4 ?_ | refine ob2 (fun _ => ?_) | intro _ | simp only [List.set])
      exact ae_cut ⟨K, hK⟩ ⟨rfl, rfl, rfl, trivial⟩ (List.Sublist.refl _)
  obtain ⟨K, hK⟩ := K
  dsimp only
  have hw := hK.w
  obtain ⟨r1, r2⟩ := rcd_cliB hK.may
  have hcl : (cliB ⟨K.c, K.k, K.p, K.f, K.l⟩).length ≤ 1000000000 := cliB_len _
  have hsl : (s.take (Int.toNat 300)).length ≤ 1000000000 := by simp; omega
  repeat' (first | refine W ?_ | refine op2 ?_ | refine ob4 ?_ | refine ob2 (fun _ => ?_) | intro _ | simp only [List.set])
  rw [show rcdV (cliB ⟨K.c, K.k, K.p, K.f, K.l⟩) = K from r1, show rcdE (cliB ⟨K.c, K.k, K.p, K.f, K.l⟩) = 0 from r2]
  repeat' (first | refine W ?_ | refine op2 ?_ | refine ob4 ?_ | refine ob2 (fun _ => ?_) | intro _ | simp only [List.set])
  refine reE ?_
  rfl⟩
end Go.Proofs.YtkijoddconipoaaGreatDoor
