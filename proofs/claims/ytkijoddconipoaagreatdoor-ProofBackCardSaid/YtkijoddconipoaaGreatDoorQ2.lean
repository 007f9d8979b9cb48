/- Tlv and hash, walked. -/
import Derived.Test.YtkijoddconipoaaGreatDoorRows
import Derived.Lib.LaidTab
import Derived.LaidLaws
import Derived.Test.YtkijoddconipoaaGreatDoorP1
import Derived.Test.YtkijoddconipoaaGreatDoorP2
import Derived.Test.YtkijoddconipoaaGreatDoorP3
import Derived.Test.YtkijoddconipoaaGreatDoorP4
import Derived.Test.YtkijoddconipoaaGreatDoorP5
import Derived.Test.YtkijoddconipoaaGreatDoorQ1
namespace Go.Proofs.YtkijoddconipoaaGreatDoor
open Go Go.RowKit Tw
theorem heads_spec (c : UInt8) (n : Nat) (w : World) : Ret Tryz.prog 101 [u8v c, .int .i64 n] w fun v w' => v = st [u8v c, u8v (UInt8.ofNat (n / 65536)), u8v (UInt8.ofNat (n / 256)), u8v (UInt8.ofNat n)] ∧ Ext w w' := by
  refine ret_enter Tryz.func101 rfl Tryz.ntmps101 rfl ?_
  have hS := St.start w (fun _ => True) (fun _ _ => trivial)
  repeat (first | refine wk ?_ | (apply wl_alloc; assumption; exact rfl; intro _ _ _ _ _ _) | (apply wl_boxS; assumption; exact rfl; exact rfl; exact rfl; intro _ _ _ _ _ _) | (apply wl_boxV; assumption; exact rfl; exact rfl; exact rfl; intro _ _ _ _ _ _) | (apply wl_storeS; assumption; exact rfl; exact rfl; (repeat (first | exact Upd.here | apply Upd.there)); exact rfl; exact rfl; exact rfl; intro _ _ _) | (apply wl_storeV; assumption; exact rfl; exact rfl; (repeat (first | exact Upd.here | apply Upd.there)); exact rfl; exact rfl; exact rfl; intro _ _ _) | (apply wl_buildL; assumption; exact rfl; exact rfl; exact rfl; exact rfl; exact rfl; exact rfl; exact rfl; exact rfl; exact rfl; intro _ _ _ _ _))
  (apply we_ret1; exact rfl; apply res_cell; assumption; exact rfl; (repeat (first | exact Has.here | apply Has.there)); exact rfl)
  refine ⟨?_, St.out (by assumption)⟩
  have e1 := u8w (n / 65536)
  have e2 := u8w (n / 256)
  have e3 := u8w n
  simp only [Int.natCast_ediv] at e1 e2
  rw [← e1, ← e2, ← e3]
  rfl
theorem text_spec (c : UInt8) (s : Bs) (w : World) : Ret Tryz.prog 60 [u8v c, sv s] w fun v w' => v = sv (tlvText c s) ∧ Ext w w' := by
  refine ret_enter Tryz.func60 rfl Tryz.ntmps60 rfl ?_
  have hS := St.start w (fun _ => True) (fun _ _ => trivial)
  repeat (first | refine wk ?_ | (apply wl_alloc; assumption; exact rfl; intro _ _ _ _ _ _) | (apply wl_boxS; assumption; exact rfl; exact rfl; exact rfl; intro _ _ _ _ _ _) | (apply wl_boxV; assumption; exact rfl; exact rfl; exact rfl; intro _ _ _ _ _ _) | (apply wl_storeS; assumption; exact rfl; exact rfl; (repeat (first | exact Upd.here | apply Upd.there)); exact rfl; exact rfl; exact rfl; intro _ _ _) | (apply wl_storeV; assumption; exact rfl; exact rfl; (repeat (first | exact Upd.here | apply Upd.there)); exact rfl; exact rfl; exact rfl; intro _ _ _) | (apply wl_buildL; assumption; exact rfl; exact rfl; exact rfl; exact rfl; exact rfl; exact rfl; exact rfl; exact rfl; exact rfl; intro _ _ _ _ _))
  apply wl_min; exact rfl; exact rfl; exact rfl
  refine wl_sliceS 0 (min s.length 16777215) rfl rfl rfl rfl (by omega) (by omega) (by omega) rfl ?_
  repeat (first | refine wk ?_ | (apply wl_alloc; assumption; exact rfl; intro _ _ _ _ _ _) | (apply wl_boxS; assumption; exact rfl; exact rfl; exact rfl; intro _ _ _ _ _ _) | (apply wl_boxV; assumption; exact rfl; exact rfl; exact rfl; intro _ _ _ _ _ _) | (apply wl_storeS; assumption; exact rfl; exact rfl; (repeat (first | exact Upd.here | apply Upd.there)); exact rfl; exact rfl; exact rfl; intro _ _ _) | (apply wl_storeV; assumption; exact rfl; exact rfl; (repeat (first | exact Upd.here | apply Upd.there)); exact rfl; exact rfl; exact rfl; intro _ _ _) | (apply wl_buildL; assumption; exact rfl; exact rfl; exact rfl; exact rfl; exact rfl; exact rfl; exact rfl; exact rfl; exact rfl; intro _ _ _ _ _))
  apply wl_callE; assumption; exact rfl; apply heads_spec c _; exact rfl
  intro v w1 hv _ _
  subst hv
  repeat (first | refine wk ?_ | (apply wl_alloc; assumption; exact rfl; intro _ _ _ _ _ _) | (apply wl_boxS; assumption; exact rfl; exact rfl; exact rfl; intro _ _ _ _ _ _) | (apply wl_boxV; assumption; exact rfl; exact rfl; exact rfl; intro _ _ _ _ _ _) | (apply wl_storeS; assumption; exact rfl; exact rfl; (repeat (first | exact Upd.here | apply Upd.there)); exact rfl; exact rfl; exact rfl; intro _ _ _) | (apply wl_storeV; assumption; exact rfl; exact rfl; (repeat (first | exact Upd.here | apply Upd.there)); exact rfl; exact rfl; exact rfl; intro _ _ _) | (apply wl_buildL; assumption; exact rfl; exact rfl; exact rfl; exact rfl; exact rfl; exact rfl; exact rfl; exact rfl; exact rfl; intro _ _ _ _ _))
  apply wl_strA; assumption; exact rfl; (repeat (first | exact Has.here | apply Has.there)); exact bytesL_u8v [_, _, _, _]; exact rfl; exact rfl
  apply wl_move; exact rfl; exact rfl
  apply wl_cat; exact rfl; exact rfl; simp; omega; exact rfl
  repeat (first | refine wk ?_ | (apply wl_alloc; assumption; exact rfl; intro _ _ _ _ _ _) | (apply wl_boxS; assumption; exact rfl; exact rfl; exact rfl; intro _ _ _ _ _ _) | (apply wl_boxV; assumption; exact rfl; exact rfl; exact rfl; intro _ _ _ _ _ _) | (apply wl_storeS; assumption; exact rfl; exact rfl; (repeat (first | exact Upd.here | apply Upd.there)); exact rfl; exact rfl; exact rfl; intro _ _ _) | (apply wl_storeV; assumption; exact rfl; exact rfl; (repeat (first | exact Upd.here | apply Upd.there)); exact rfl; exact rfl; exact rfl; intro _ _ _) | (apply wl_buildL; assumption; exact rfl; exact rfl; exact rfl; exact rfl; exact rfl; exact rfl; exact rfl; exact rfl; exact rfl; intro _ _ _ _ _))
  (apply we_ret1; exact rfl; apply res_tmp; exact rfl)
  refine ⟨?_, St.out (by assumption)⟩
  have e1 : (s.take (min s.length 16777215)).drop 0 = s.take bodyLen := by
    unfold bodyLen
    rw [List.drop_zero]
    rcases Nat.le_total s.length 16777215 with h | h
    · rw [Nat.min_eq_left h, List.take_length, List.take_of_length_le h]
    · rw [Nat.min_eq_right h]
  rw [e1]
  rfl
theorem digitsF_more : ∀ (f n : Nat), n < 256 ^ f → digitsF (f + 1) n = digitsF f n
  | 0, n, h => by
    have : n = 0 := by simpa using h
    subst this
    rfl
  | f + 1, n, h => by
    have h1 := digitsF_more f (n / 256) (by rw [Nat.pow_succ] at h; omega)
    show (if n = 0 then [] else digitsF (f + 1) (n / 256) ++ [UInt8.ofNat n]) = if n = 0 then [] else digitsF f (n / 256) ++ [UInt8.ofNat n]
    rw [h1]
theorem digitsF_step {x : Nat} (h : x < 256 ^ 8) : digitsF 8 x = if x = 0 then [] else digitsF 8 (x / 256) ++ [UInt8.ofNat x] := by
  have h1 := digitsF_more 7 (x / 256) (by omega)
  show (if x = 0 then [] else digitsF 7 (x / 256) ++ [UInt8.ofNat x]) = _
  rw [← h1]
theorem digitsF_some {x : Nat} (h : x < 256 ^ 8) : 0 < (digitsF 8 x).length ↔ x ≠ 0 := by
  rw [digitsF_step h]
  by_cases h0 : x = 0 <;> simp [h0]
theorem digits_spec (n : Nat) (hn : n < 256 ^ 8) (w : World) : Ret Tryz.prog 127 [.int .u64 n] w fun v w' => v = sv (digits n) ∧ Ext w w' := by
  refine ret_enter Tryz.func127 rfl Tryz.ntmps127 rfl ?_
  have hS := (St.start w (fun _ => True) (fun _ _ => trivial)).nilRow 5 1
  repeat (first | refine wk ?_ | (apply wl_alloc; assumption; exact rfl; intro _ _ _ _ _ _) | (apply wl_boxS; assumption; exact rfl; exact rfl; exact rfl; intro _ _ _ _ _ _) | (apply wl_boxV; assumption; exact rfl; exact rfl; exact rfl; intro _ _ _ _ _ _) | (apply wl_storeS; assumption; exact rfl; exact rfl; (repeat (first | exact Upd.here | apply Upd.there)); exact rfl; exact rfl; exact rfl; intro _ _ _) | (apply wl_storeV; assumption; exact rfl; exact rfl; (repeat (first | exact Upd.here | apply Upd.there)); exact rfl; exact rfl; exact rfl; intro _ _ _) | (apply wl_buildL; assumption; exact rfl; exact rfl; exact rfl; exact rfl; exact rfl; exact rfl; exact rfl; exact rfl; exact rfl; intro _ _ _ _ _))
  refine wc_loop (α := Nat × Value × Bs) (fun x => [(0, .int .u64 n), (3, x.2.1), (4, .int .i64 ((x.1 : Int) * 8 - 8))])
    (fun x w' => x.1 ≤ 8 ∧ x.2.2.length + x.1 ≤ 8 ∧ x.2.2 = digitsF 8 (n / 256 ^ x.1) ∧ ∃ ok, St ⟨w, fun _ => True, fun _ => False⟩ ok [.row x.2.1 5 1 (x.2.2.map u8v)] w')
    (fun x => x.1) (8, .slice none 0 0, []) ⟨rfl, rfl, rfl, trivial⟩ ?_ ?_
  · exact ⟨Nat.le_refl _, Nat.le_refl _, by rw [Nat.div_eq_of_lt hn]; rfl, _, hS⟩
  · rintro ⟨r, v, l⟩ w1 ⟨h1, h2, h3, ok, hS⟩
    dsimp only at h1 h2 h3 hS ⊢
    repeat (first | refine wk ?_ | (apply wl_alloc; assumption; exact rfl; intro _ _ _ _ _ _) | (apply wl_boxS; assumption; exact rfl; exact rfl; exact rfl; intro _ _ _ _ _ _) | (apply wl_boxV; assumption; exact rfl; exact rfl; exact rfl; intro _ _ _ _ _ _) | (apply wl_storeS; assumption; exact rfl; exact rfl; (repeat (first | exact Upd.here | apply Upd.there)); exact rfl; exact rfl; exact rfl; intro _ _ _) | (apply wl_storeV; assumption; exact rfl; exact rfl; (repeat (first | exact Upd.here | apply Upd.there)); exact rfl; exact rfl; exact rfl; intro _ _ _) | (apply wl_buildL; assumption; exact rfl; exact rfl; exact rfl; exact rfl; exact rfl; exact rfl; exact rfl; exact rfl; exact rfl; intro _ _ _ _ _))
    refine wc_cond rfl (fun hr => ?_) (fun hr => ?_)
    · obtain ⟨r, rfl⟩ : ∃ q, r = q + 1 := ⟨r - 1, by omega⟩
      obtain ⟨A, c, rfl⟩ := (hS.rowSl 0 rfl).shape
      repeat (first | refine wk ?_ | (apply wl_alloc; assumption; exact rfl; intro _ _ _ _ _ _) | (apply wl_boxS; assumption; exact rfl; exact rfl; exact rfl; intro _ _ _ _ _ _) | (apply wl_boxV; assumption; exact rfl; exact rfl; exact rfl; intro _ _ _ _ _ _) | (apply wl_storeS; assumption; exact rfl; exact rfl; (repeat (first | exact Upd.here | apply Upd.there)); exact rfl; exact rfl; exact rfl; intro _ _ _) | (apply wl_storeV; assumption; exact rfl; exact rfl; (repeat (first | exact Upd.here | apply Upd.there)); exact rfl; exact rfl; exact rfl; intro _ _ _) | (apply wl_buildL; assumption; exact rfl; exact rfl; exact rfl; exact rfl; exact rfl; exact rfl; exact rfl; exact rfl; exact rfl; intro _ _ _ _ _))
      refine wl_shr (8 * r) (256 ^ r) rfl rfl (by omega) ?_ rfl ?_
      · rw [show min (8 * r) IntKind.u64.bits = 8 * r by show min (8 * r) 64 = 8 * r; omega, Int.pow_mul]
        rfl
      apply wl_convI'; exact rfl; exact rfl
      apply wl_assign; exact rfl; exact rfl
      apply wl_as 5 rfl (by have h := u8w (n / 256 ^ r); simp only [Int.natCast_ediv, Int.natCast_pow] at h; exact h)
      generalize hx : n / 256 ^ r = x at *
      have h3' : l = digitsF 8 (x / 256) := by rw [h3, ← hx, Nat.div_div_eq_div_mul, Nat.pow_succ]
      have hx8 : x < 256 ^ 8 := by rw [← hx]; exact Nat.lt_of_le_of_lt (Nat.div_le_self _ _) hn
      repeat (first | refine wk ?_ | (apply wl_alloc; assumption; exact rfl; intro _ _ _ _ _ _) | (apply wl_boxS; assumption; exact rfl; exact rfl; exact rfl; intro _ _ _ _ _ _) | (apply wl_boxV; assumption; exact rfl; exact rfl; exact rfl; intro _ _ _ _ _ _) | (apply wl_storeS; assumption; exact rfl; exact rfl; (repeat (first | exact Upd.here | apply Upd.there)); exact rfl; exact rfl; exact rfl; intro _ _ _) | (apply wl_storeV; assumption; exact rfl; exact rfl; (repeat (first | exact Upd.here | apply Upd.there)); exact rfl; exact rfl; exact rfl; intro _ _ _) | (apply wl_buildL; assumption; exact rfl; exact rfl; exact rfl; exact rfl; exact rfl; exact rfl; exact rfl; exact rfl; exact rfl; intro _ _ _ _ _))
      have hmod : (UInt8.ofNat x).toNat = x % 256 := by simp
      have hst := digitsF_step hx8
      have hsm := digitsF_some (x := x / 256) (by omega)
      refine wl_guard 16 rfl ?_ ?_
      · intro hz
        have hz : x % 256 = 0 := by
          rw [hmod] at hz
          have := of_decide_eq_false hz
          omega
        repeat (first | refine wk ?_ | (apply wl_alloc; assumption; exact rfl; intro _ _ _ _ _ _) | (apply wl_boxS; assumption; exact rfl; exact rfl; exact rfl; intro _ _ _ _ _ _) | (apply wl_boxV; assumption; exact rfl; exact rfl; exact rfl; intro _ _ _ _ _ _) | (apply wl_storeS; assumption; exact rfl; exact rfl; (repeat (first | exact Upd.here | apply Upd.there)); exact rfl; exact rfl; exact rfl; intro _ _ _) | (apply wl_storeV; assumption; exact rfl; exact rfl; (repeat (first | exact Upd.here | apply Upd.there)); exact rfl; exact rfl; exact rfl; intro _ _ _) | (apply wl_buildL; assumption; exact rfl; exact rfl; exact rfl; exact rfl; exact rfl; exact rfl; exact rfl; exact rfl; exact rfl; intro _ _ _ _ _))
        refine wc_cond rfl (fun hl => ?_) (fun hl => ?_)
        · have hl : 0 < l.length := by simpa using hl
          rw [← h3'] at hsm hst
          have hx0 : x ≠ 0 := by have := hsm.1 hl; omega
          repeat (first | refine wk ?_ | (apply wl_alloc; assumption; exact rfl; intro _ _ _ _ _ _) | (apply wl_boxS; assumption; exact rfl; exact rfl; exact rfl; intro _ _ _ _ _ _) | (apply wl_boxV; assumption; exact rfl; exact rfl; exact rfl; intro _ _ _ _ _ _) | (apply wl_storeS; assumption; exact rfl; exact rfl; (repeat (first | exact Upd.here | apply Upd.there)); exact rfl; exact rfl; exact rfl; intro _ _ _) | (apply wl_storeV; assumption; exact rfl; exact rfl; (repeat (first | exact Upd.here | apply Upd.there)); exact rfl; exact rfl; exact rfl; intro _ _ _) | (apply wl_buildL; assumption; exact rfl; exact rfl; exact rfl; exact rfl; exact rfl; exact rfl; exact rfl; exact rfl; exact rfl; intro _ _ _ _ _))
          refine wl_append 0 (by assumption) rfl rfl rfl (by assumption) rfl rfl rfl (by simp; omega) (by simp [maxLen]; omega) ?_
          intro v' ok' w' hS' _
          repeat (first | refine wk ?_ | (apply wl_alloc; assumption; exact rfl; intro _ _ _ _ _ _) | (apply wl_boxS; assumption; exact rfl; exact rfl; exact rfl; intro _ _ _ _ _ _) | (apply wl_boxV; assumption; exact rfl; exact rfl; exact rfl; intro _ _ _ _ _ _) | (apply wl_storeS; assumption; exact rfl; exact rfl; (repeat (first | exact Upd.here | apply Upd.there)); exact rfl; exact rfl; exact rfl; intro _ _ _) | (apply wl_storeV; assumption; exact rfl; exact rfl; (repeat (first | exact Upd.here | apply Upd.there)); exact rfl; exact rfl; exact rfl; intro _ _ _) | (apply wl_buildL; assumption; exact rfl; exact rfl; exact rfl; exact rfl; exact rfl; exact rfl; exact rfl; exact rfl; exact rfl; intro _ _ _ _ _))
          refine we_round (r, v', l ++ [UInt8.ofNat x]) ⟨rfl, rfl, ?_, trivial⟩ ⟨by omega, by simp; omega, ?_, ok', by simpa using hS'⟩ (Nat.lt_succ_self r)
          · show some (Value.int .i64 _) = some (Value.int .i64 _)
            congr 2
            omega
          · show l ++ [UInt8.ofNat x] = digitsF 8 (n / 256 ^ r)
            rw [hx, hst, if_neg hx0]
        · have hl : ¬ 0 < l.length := by simpa using hl
          rw [← h3'] at hsm hst
          have hx0 : x = 0 := by have := mt hsm.2 hl; omega
          repeat (first | refine wk ?_ | (apply wl_alloc; assumption; exact rfl; intro _ _ _ _ _ _) | (apply wl_boxS; assumption; exact rfl; exact rfl; exact rfl; intro _ _ _ _ _ _) | (apply wl_boxV; assumption; exact rfl; exact rfl; exact rfl; intro _ _ _ _ _ _) | (apply wl_storeS; assumption; exact rfl; exact rfl; (repeat (first | exact Upd.here | apply Upd.there)); exact rfl; exact rfl; exact rfl; intro _ _ _) | (apply wl_storeV; assumption; exact rfl; exact rfl; (repeat (first | exact Upd.here | apply Upd.there)); exact rfl; exact rfl; exact rfl; intro _ _ _) | (apply wl_buildL; assumption; exact rfl; exact rfl; exact rfl; exact rfl; exact rfl; exact rfl; exact rfl; exact rfl; exact rfl; intro _ _ _ _ _))
          refine we_round (r, _, l) ⟨rfl, rfl, ?_, trivial⟩ ⟨Nat.le_of_succ_le h1, Nat.le_of_succ_le h2, ?_, ok, hS⟩ (Nat.lt_succ_self r)
          · show some (Value.int .i64 _) = some (Value.int .i64 _)
            congr 2
            omega
          · show l = digitsF 8 (n / 256 ^ r)
            rw [hx, hst, if_pos hx0]
            exact List.eq_nil_of_length_eq_zero (by omega)
      · intro hz
        have hz : x % 256 ≠ 0 := by
          rw [hmod] at hz
          have := of_decide_eq_true hz
          omega
        have hx0 : x ≠ 0 := by omega
        repeat (first | refine wk ?_ | (apply wl_alloc; assumption; exact rfl; intro _ _ _ _ _ _) | (apply wl_boxS; assumption; exact rfl; exact rfl; exact rfl; intro _ _ _ _ _ _) | (apply wl_boxV; assumption; exact rfl; exact rfl; exact rfl; intro _ _ _ _ _ _) | (apply wl_storeS; assumption; exact rfl; exact rfl; (repeat (first | exact Upd.here | apply Upd.there)); exact rfl; exact rfl; exact rfl; intro _ _ _) | (apply wl_storeV; assumption; exact rfl; exact rfl; (repeat (first | exact Upd.here | apply Upd.there)); exact rfl; exact rfl; exact rfl; intro _ _ _) | (apply wl_buildL; assumption; exact rfl; exact rfl; exact rfl; exact rfl; exact rfl; exact rfl; exact rfl; exact rfl; exact rfl; intro _ _ _ _ _))
        refine wl_append 0 (by assumption) rfl rfl rfl (by assumption) rfl rfl rfl (by simp; omega) (by simp [maxLen]; omega) ?_
        intro v' ok' w' hS' _
        repeat (first | refine wk ?_ | (apply wl_alloc; assumption; exact rfl; intro _ _ _ _ _ _) | (apply wl_boxS; assumption; exact rfl; exact rfl; exact rfl; intro _ _ _ _ _ _) | (apply wl_boxV; assumption; exact rfl; exact rfl; exact rfl; intro _ _ _ _ _ _) | (apply wl_storeS; assumption; exact rfl; exact rfl; (repeat (first | exact Upd.here | apply Upd.there)); exact rfl; exact rfl; exact rfl; intro _ _ _) | (apply wl_storeV; assumption; exact rfl; exact rfl; (repeat (first | exact Upd.here | apply Upd.there)); exact rfl; exact rfl; exact rfl; intro _ _ _) | (apply wl_buildL; assumption; exact rfl; exact rfl; exact rfl; exact rfl; exact rfl; exact rfl; exact rfl; exact rfl; exact rfl; intro _ _ _ _ _))
        refine we_round (r, v', l ++ [UInt8.ofNat x]) ⟨rfl, rfl, ?_, trivial⟩ ⟨by omega, by simp; omega, ?_, ok', by simpa using hS'⟩ (Nat.lt_succ_self r)
        · show some (Value.int .i64 _) = some (Value.int .i64 _)
          congr 2
          omega
        · show l ++ [UInt8.ofNat x] = digitsF 8 (n / 256 ^ r)
          rw [hx, hst, if_neg hx0, ← h3']
    · obtain rfl : r = 0 := by omega
      repeat (first | refine wk ?_ | (apply wl_alloc; assumption; exact rfl; intro _ _ _ _ _ _) | (apply wl_boxS; assumption; exact rfl; exact rfl; exact rfl; intro _ _ _ _ _ _) | (apply wl_boxV; assumption; exact rfl; exact rfl; exact rfl; intro _ _ _ _ _ _) | (apply wl_storeS; assumption; exact rfl; exact rfl; (repeat (first | exact Upd.here | apply Upd.there)); exact rfl; exact rfl; exact rfl; intro _ _ _) | (apply wl_storeV; assumption; exact rfl; exact rfl; (repeat (first | exact Upd.here | apply Upd.there)); exact rfl; exact rfl; exact rfl; intro _ _ _) | (apply wl_buildL; assumption; exact rfl; exact rfl; exact rfl; exact rfl; exact rfl; exact rfl; exact rfl; exact rfl; exact rfl; intro _ _ _ _ _))
      obtain ⟨A, c, rfl⟩ := (hS.rowSl 0 rfl).shape
      apply wl_strD; exact rfl; exact hS.rowSl 0 rfl; exact rfl
      repeat (first | refine wk ?_ | (apply wl_alloc; assumption; exact rfl; intro _ _ _ _ _ _) | (apply wl_boxS; assumption; exact rfl; exact rfl; exact rfl; intro _ _ _ _ _ _) | (apply wl_boxV; assumption; exact rfl; exact rfl; exact rfl; intro _ _ _ _ _ _) | (apply wl_storeS; assumption; exact rfl; exact rfl; (repeat (first | exact Upd.here | apply Upd.there)); exact rfl; exact rfl; exact rfl; intro _ _ _) | (apply wl_storeV; assumption; exact rfl; exact rfl; (repeat (first | exact Upd.here | apply Upd.there)); exact rfl; exact rfl; exact rfl; intro _ _ _) | (apply wl_buildL; assumption; exact rfl; exact rfl; exact rfl; exact rfl; exact rfl; exact rfl; exact rfl; exact rfl; exact rfl; intro _ _ _ _ _))
      (apply we_ret1; exact rfl; apply res_tmp; exact rfl)
      refine ⟨?_, hS.out⟩
      rw [h3]
      simp [digits]
theorem num_spec (c : UInt8) (n : Nat) (hn : n < 256 ^ 8) (w : World) : Ret Tryz.prog 102 [u8v c, .int .u64 n] w fun v w' => v = sv (tlvNum c n) ∧ Ext w w' := by
  refine ret_enter Tryz.func102 rfl Tryz.ntmps102 rfl ?_
  have hS := St.start w (fun _ => True) (fun _ _ => trivial)
  repeat (first | refine wk ?_ | (apply wl_alloc; assumption; exact rfl; intro _ _ _ _ _ _) | (apply wl_boxS; assumption; exact rfl; exact rfl; exact rfl; intro _ _ _ _ _ _) | (apply wl_boxV; assumption; exact rfl; exact rfl; exact rfl; intro _ _ _ _ _ _) | (apply wl_storeS; assumption; exact rfl; exact rfl; (repeat (first | exact Upd.here | apply Upd.there)); exact rfl; exact rfl; exact rfl; intro _ _ _) | (apply wl_storeV; assumption; exact rfl; exact rfl; (repeat (first | exact Upd.here | apply Upd.there)); exact rfl; exact rfl; exact rfl; intro _ _ _) | (apply wl_buildL; assumption; exact rfl; exact rfl; exact rfl; exact rfl; exact rfl; exact rfl; exact rfl; exact rfl; exact rfl; intro _ _ _ _ _))
  apply wl_callE; assumption; exact rfl
  exact digits_spec n hn _
  exact rfl
  rintro _ _ rfl _ _
  apply wl_callE; assumption; exact rfl
  exact text_spec c _ _
  exact rfl
  rintro _ _ rfl _ _
  repeat (first | refine wk ?_ | (apply wl_alloc; assumption; exact rfl; intro _ _ _ _ _ _) | (apply wl_boxS; assumption; exact rfl; exact rfl; exact rfl; intro _ _ _ _ _ _) | (apply wl_boxV; assumption; exact rfl; exact rfl; exact rfl; intro _ _ _ _ _ _) | (apply wl_storeS; assumption; exact rfl; exact rfl; (repeat (first | exact Upd.here | apply Upd.there)); exact rfl; exact rfl; exact rfl; intro _ _ _) | (apply wl_storeV; assumption; exact rfl; exact rfl; (repeat (first | exact Upd.here | apply Upd.there)); exact rfl; exact rfl; exact rfl; intro _ _ _) | (apply wl_buildL; assumption; exact rfl; exact rfl; exact rfl; exact rfl; exact rfl; exact rfl; exact rfl; exact rfl; exact rfl; intro _ _ _ _ _))
  (apply we_ret1; exact rfl; apply res_tmp; exact rfl)
  exact ⟨rfl, St.out (by assumption)⟩
theorem int_spec (c : UInt8) (n : Int) (hn : n ≤ 9223372036854775807) (w : World) : Ret Tryz.prog 61 [u8v c, .int .i64 n] w fun v w' => v = sv (tlvInt c n) ∧ Ext w w' := by
  refine ret_enter Tryz.func61 rfl Tryz.ntmps61 rfl ?_
  have hS := St.start w (fun _ => True) (fun _ _ => trivial)
  repeat (first | refine wk ?_ | (apply wl_alloc; assumption; exact rfl; intro _ _ _ _ _ _) | (apply wl_boxS; assumption; exact rfl; exact rfl; exact rfl; intro _ _ _ _ _ _) | (apply wl_boxV; assumption; exact rfl; exact rfl; exact rfl; intro _ _ _ _ _ _) | (apply wl_storeS; assumption; exact rfl; exact rfl; (repeat (first | exact Upd.here | apply Upd.there)); exact rfl; exact rfl; exact rfl; intro _ _ _) | (apply wl_storeV; assumption; exact rfl; exact rfl; (repeat (first | exact Upd.here | apply Upd.there)); exact rfl; exact rfl; exact rfl; intro _ _ _) | (apply wl_buildL; assumption; exact rfl; exact rfl; exact rfl; exact rfl; exact rfl; exact rfl; exact rfl; exact rfl; exact rfl; intro _ _ _ _ _))
  apply wl_max; exact rfl; exact rfl; exact rfl
  repeat (first | refine wk ?_ | (apply wl_alloc; assumption; exact rfl; intro _ _ _ _ _ _) | (apply wl_boxS; assumption; exact rfl; exact rfl; exact rfl; intro _ _ _ _ _ _) | (apply wl_boxV; assumption; exact rfl; exact rfl; exact rfl; intro _ _ _ _ _ _) | (apply wl_storeS; assumption; exact rfl; exact rfl; (repeat (first | exact Upd.here | apply Upd.there)); exact rfl; exact rfl; exact rfl; intro _ _ _) | (apply wl_storeV; assumption; exact rfl; exact rfl; (repeat (first | exact Upd.here | apply Upd.there)); exact rfl; exact rfl; exact rfl; intro _ _ _) | (apply wl_buildL; assumption; exact rfl; exact rfl; exact rfl; exact rfl; exact rfl; exact rfl; exact rfl; exact rfl; exact rfl; intro _ _ _ _ _))
  apply wl_as 8 rfl (show Value.int .u64 _ = .int .u64 (n.toNat : Nat) by
    rw [IntKind.wrap_u64]
    congr 1
    omega)
  apply wl_callE; assumption; exact rfl
  exact num_spec c n.toNat (by omega) _
  exact rfl
  rintro _ _ rfl _ _
  repeat (first | refine wk ?_ | (apply wl_alloc; assumption; exact rfl; intro _ _ _ _ _ _) | (apply wl_boxS; assumption; exact rfl; exact rfl; exact rfl; intro _ _ _ _ _ _) | (apply wl_boxV; assumption; exact rfl; exact rfl; exact rfl; intro _ _ _ _ _ _) | (apply wl_storeS; assumption; exact rfl; exact rfl; (repeat (first | exact Upd.here | apply Upd.there)); exact rfl; exact rfl; exact rfl; intro _ _ _) | (apply wl_storeV; assumption; exact rfl; exact rfl; (repeat (first | exact Upd.here | apply Upd.there)); exact rfl; exact rfl; exact rfl; intro _ _ _) | (apply wl_buildL; assumption; exact rfl; exact rfl; exact rfl; exact rfl; exact rfl; exact rfl; exact rfl; exact rfl; exact rfl; intro _ _ _ _ _))
  (apply we_ret1; exact rfl; apply res_tmp; exact rfl)
  exact ⟨rfl, St.out (by assumption)⟩
end Go.Proofs.YtkijoddconipoaaGreatDoor

namespace Go.Proofs.YtkijoddconipoaaGreatDoor
open Go Go.RowKit Tw
theorem mixed : (Tryz.prog).follows .mixedOrders = true := by kernel_rfl
theorem rotr_and : ∀ n : Fin 32, 0 < n.val → (BitVec.ofInt 64 (IntKind.u64.wrap (-(n.val : Int))) &&& BitVec.ofInt 64 31).toNat = 32 - n.val := by decide +kernel
theorem rotr_spec (x : W32) (n : Nat) (h0 : 0 < n) (h1 : n < 32) (w : World) : Ret Tryz.prog 170 [w32v x, .int .i64 (-(n : Int))] w fun v w' => v = w32v (rotr x n) ∧ Ext w w' := by
  refine ret_enter Tryz.func170 rfl Tryz.ntmps170 rfl ?_
  have hS := St.start w (fun _ => True) (fun _ _ => trivial)
  repeat (first | refine wk ?_ | (apply wl_alloc; assumption; exact rfl; intro _ _ _ _ _ _) | (apply wl_boxS; assumption; exact rfl; exact rfl; exact rfl; intro _ _ _ _ _ _) | (apply wl_boxV; assumption; exact rfl; exact rfl; exact rfl; intro _ _ _ _ _ _) | (apply wl_storeS; assumption; exact rfl; exact rfl; (repeat (first | exact Upd.here | apply Upd.there)); exact rfl; exact rfl; exact rfl; intro _ _ _) | (apply wl_storeV; assumption; exact rfl; exact rfl; (repeat (first | exact Upd.here | apply Upd.there)); exact rfl; exact rfl; exact rfl; intro _ _ _) | (apply wl_buildL; assumption; exact rfl; exact rfl; exact rfl; exact rfl; exact rfl; exact rfl; exact rfl; exact rfl; exact rfl; intro _ _ _ _ _))
  apply wl_bits (v := .int .u64 ((32 - n : Nat) : Int)); exact rfl; exact rfl
  intro w
  · have h := rotr_and ⟨n, h1⟩ h0
    simp only [Op.intBits]
    show Result.ok (Value.int .u64 (IntKind.u64.wrap ((BitVec.ofInt 64 (IntKind.u64.wrap (-(n : Int))) &&& BitVec.ofInt 64 31).toNat : Int))) w = _
    rw [h, IntKind.wrap_u64]
    dsimp only
    congr 2
    omega
  exact .inl rfl
  exact rfl
  repeat (first | refine wk ?_ | (apply wl_alloc; assumption; exact rfl; intro _ _ _ _ _ _) | (apply wl_boxS; assumption; exact rfl; exact rfl; exact rfl; intro _ _ _ _ _ _) | (apply wl_boxV; assumption; exact rfl; exact rfl; exact rfl; intro _ _ _ _ _ _) | (apply wl_storeS; assumption; exact rfl; exact rfl; (repeat (first | exact Upd.here | apply Upd.there)); exact rfl; exact rfl; exact rfl; intro _ _ _) | (apply wl_storeV; assumption; exact rfl; exact rfl; (repeat (first | exact Upd.here | apply Upd.there)); exact rfl; exact rfl; exact rfl; intro _ _ _) | (apply wl_buildL; assumption; exact rfl; exact rfl; exact rfl; exact rfl; exact rfl; exact rfl; exact rfl; exact rfl; exact rfl; intro _ _ _ _ _))
  refine wl_shl32 (32 - n) rfl rfl rfl (by omega) rfl ?_
  repeat (first | refine wk ?_ | (apply wl_alloc; assumption; exact rfl; intro _ _ _ _ _ _) | (apply wl_boxS; assumption; exact rfl; exact rfl; exact rfl; intro _ _ _ _ _ _) | (apply wl_boxV; assumption; exact rfl; exact rfl; exact rfl; intro _ _ _ _ _ _) | (apply wl_storeS; assumption; exact rfl; exact rfl; (repeat (first | exact Upd.here | apply Upd.there)); exact rfl; exact rfl; exact rfl; intro _ _ _) | (apply wl_storeV; assumption; exact rfl; exact rfl; (repeat (first | exact Upd.here | apply Upd.there)); exact rfl; exact rfl; exact rfl; intro _ _ _) | (apply wl_buildL; assumption; exact rfl; exact rfl; exact rfl; exact rfl; exact rfl; exact rfl; exact rfl; exact rfl; exact rfl; intro _ _ _ _ _))
  refine wl_shr32 n rfl rfl (by rw [IntKind.wrap_u64]; omega) h1 rfl ?_
  apply wl_bit32; exact rfl; exact rfl; exact rfl; exact rfl
  repeat (first | refine wk ?_ | (apply wl_alloc; assumption; exact rfl; intro _ _ _ _ _ _) | (apply wl_boxS; assumption; exact rfl; exact rfl; exact rfl; intro _ _ _ _ _ _) | (apply wl_boxV; assumption; exact rfl; exact rfl; exact rfl; intro _ _ _ _ _ _) | (apply wl_storeS; assumption; exact rfl; exact rfl; (repeat (first | exact Upd.here | apply Upd.there)); exact rfl; exact rfl; exact rfl; intro _ _ _) | (apply wl_storeV; assumption; exact rfl; exact rfl; (repeat (first | exact Upd.here | apply Upd.there)); exact rfl; exact rfl; exact rfl; intro _ _ _) | (apply wl_buildL; assumption; exact rfl; exact rfl; exact rfl; exact rfl; exact rfl; exact rfl; exact rfl; exact rfl; exact rfl; intro _ _ _ _ _))
  (apply we_ret1; exact rfl; apply res_tmp; exact rfl)
  refine ⟨?_, hS.out⟩
  rw [rotr, BitVec.or_comm]
/-- the two tables -/
structure Glo (w : World) : Prop where
  begin : Rg w 1 0 (h0.words.map w32v)
  factors : Rg w 2 0 (kTab.map w32v)
theorem Glo.ext {w w' : World} (h : Glo w) (e : Ext w w') : Glo w' := ⟨h.begin.ext e, h.factors.ext e⟩
theorem St.glo {s : Base} {ok : Nat → Prop} {m : List Piece} {w : World} (hS : St s ok m w) (h : Glo s.w) (h0 : ¬ s.md 1) (h2 : ¬ s.md 2) : Glo w := ⟨hS.keepRg h.begin h0, hS.keepRg h.factors h2⟩
def hsw (l : List W32) (buf : Bs) (n : Nat) : List Value := l.map w32v ++ buf.map u8v ++ [.int .i64 n, .bool true]
abbrev hsh (x : H8) (buf : Bs) (n : Nat) : List Value := hsw x.words buf n
theorem hsh_units (l : List W32) (buf : Bs) (n : Nat) : Units (hsw l buf n) :=
  ((Units.map w32v_unit _).append (Units.map u8v_unit _)).append (Units.cons rfl (Units.cons rfl Units.nil))
theorem hsh_good (l : List W32) (buf : Bs) (n : Nat) : Tw.Good (hsw l buf n) :=
  ((Tw.Good.map w32v_good _).append (Tw.Good.map u8v_good _)).append (good_all rfl)
theorem tzH : TyZ Tryz.prog 210 [st (List.replicate 8 (.int .u32 0)), st (List.replicate 64 (.int .u8 0)), .int .i64 0, .bool false] := ⟨by kernel_rfl, rfl⟩
theorem new_spec (w : World) (hg : Glo w) : Ret Tryz.prog 159 [] w fun v w' => ∃ g, v = .pointer (some ⟨g, 0, none⟩) ∧ New g 210 (hsh h0 (zeros 64) 0) w w' := by
  refine ret_enter Tryz.func159 rfl Tryz.ntmps159 rfl ?_
  have hS := St.start w (fun _ => True) (fun _ _ => trivial)
  repeat (first | refine wk ?_ | (apply wl_alloc; assumption; exact rfl; intro _ _ _ _ _ _) | (apply wl_boxS; assumption; exact rfl; exact rfl; exact rfl; intro _ _ _ _ _ _) | (apply wl_boxV; assumption; exact rfl; exact rfl; exact rfl; intro _ _ _ _ _ _) | (apply wl_storeS; assumption; exact rfl; exact rfl; (repeat (first | exact Upd.here | apply Upd.there)); exact rfl; exact rfl; exact rfl; intro _ _ _) | (apply wl_storeV; assumption; exact rfl; exact rfl; (repeat (first | exact Upd.here | apply Upd.there)); exact rfl; exact rfl; exact rfl; intro _ _ _) | (apply wl_buildL; assumption; exact rfl; exact rfl; exact rfl; exact rfl; exact rfl; exact rfl; exact rfl; exact rfl; exact rfl; intro _ _ _ _ _))
  apply wl_loadD (v := st (h0.words.map w32v)); exact rfl; exact hg.begin; exact rfl; exact rfl; exact rfl
  apply wl_build (tz := tzH)
  exact rfl
  exact rfl
  exact rfl
  exact rfl
  apply wl_box (xs := hsh h0 (zeros 64) 0); exact hS; exact rfl; exact rfl; exact hsh_good _ _ _; exact rfl
  intro g ok' w' hS' _ hlt
  repeat (first | refine wk ?_ | (apply wl_alloc; assumption; exact rfl; intro _ _ _ _ _ _) | (apply wl_boxS; assumption; exact rfl; exact rfl; exact rfl; intro _ _ _ _ _ _) | (apply wl_boxV; assumption; exact rfl; exact rfl; exact rfl; intro _ _ _ _ _ _) | (apply wl_storeS; assumption; exact rfl; exact rfl; (repeat (first | exact Upd.here | apply Upd.there)); exact rfl; exact rfl; exact rfl; intro _ _ _) | (apply wl_storeV; assumption; exact rfl; exact rfl; (repeat (first | exact Upd.here | apply Upd.there)); exact rfl; exact rfl; exact rfl; intro _ _ _) | (apply wl_buildL; assumption; exact rfl; exact rfl; exact rfl; exact rfl; exact rfl; exact rfl; exact rfl; exact rfl; exact rfl; intro _ _ _ _ _))
  (apply we_ret1; exact rfl; apply res_tmp; exact rfl)
  exact ⟨g, rfl, New.of hS' .here hlt⟩
theorem hsh_x (x : H8) (buf : Bs) (n j : Nat) (h : j < 8) : (hsh x buf n)[j]? = some (w32v (x.words.getD j 0)) := by
  have hl : x.words.length = 8 := rfl
  simp [hsh, hsw, List.getElem?_append, hl, h]
theorem hsh_b (x : H8) (buf : Bs) (n j : Nat) (hb : buf.length = 64) (h : j < 64) : (hsh x buf n)[8 + j]? = some (u8v (buf.getD j 0)) := by
  have hl : x.words.length = 8 := rfl
  simp [hsh, hsw, List.getElem?_append, hl, hb, h]
theorem hsh_n (x : H8) (buf : Bs) (n : Nat) (hb : buf.length = 64) : (hsh x buf n)[72]? = some (.int .i64 n) := by
  have hl : x.words.length = 8 := rfl
  simp [hsh, hsw, hl, hb]
theorem hsw_set (l : List W32) (buf : Bs) (n i : Nat) (v : W32) (h : i < l.length) : (hsw l buf n).set i (w32v v) = hsw (l.set i v) buf n := by
  unfold hsw
  rw [List.append_assoc, List.set_append, if_pos (by simpa using h), ← List.map_set, List.append_assoc]
/-! the block -/
theorem ws_len (blk : Bs) : ∀ k, (ws blk k).length = k
  | 0 => rfl
  | k + 1 => by simp [ws, ws_len blk k]
/-- the row of words when k of them are made -/
def wv (blk : Bs) (k : Nat) : List Value := (ws blk k).map w32v ++ List.replicate (64 - k) (w32v 0)
theorem wv_len (blk : Bs) (k : Nat) (h : k ≤ 64) : (wv blk k).length = 64 := by simp [wv, ws_len]; omega
theorem wv_units (blk : Bs) (k : Nat) : Units (wv blk k) := (Units.map w32v_unit _).append fun x hx => by rw [List.eq_of_mem_replicate hx]; rfl
theorem wv_get (blk : Bs) (k j : Nat) (h : j < k) : (wv blk k)[j]? = some (w32v ((ws blk k).getD j 0)) := by
  have hl := ws_len blk k
  simp [wv, List.getElem?_append, hl, h]
theorem wv_next (blk : Bs) (k : Nat) (h : k < 64) (x : W32) (hx : ws blk (k + 1) = ws blk k ++ [x]) : (wv blk k).set k (w32v x) = wv blk (k + 1) := by
  have hl := ws_len blk k
  unfold wv
  rw [hx, List.set_append, if_neg (by simp [hl]), List.map_append, List.length_map, hl, Nat.sub_self, show 64 - k = (64 - (k + 1)) + 1 by omega, List.replicate_succ]
  simp
theorem wv_zero (blk : Bs) (k : Nat) (h : k < 64) : (wv blk k).set k (w32v 0) = wv blk k := by
  have hl := ws_len blk k
  unfold wv
  rw [List.set_append, if_neg (by simp [hl]), List.length_map, hl, Nat.sub_self, show 64 - k = (64 - (k + 1)) + 1 by omega, List.replicate_succ]
  simp
theorem block_spec (w : World) (g : Nat) (x : H8) (buf : Bs) (n : Nat) (hg : Glo w) (h0 : g ≠ 1) (h2 : g ≠ 2) (hb : w.heap[g]? = some (.cells (fl (hsh x buf n)).toArray 210 (0, 0))) (hl : buf.length = 64) :
    Ret Tryz.prog 166 [.pointer (some ⟨g, 0, none⟩)] w fun v w' => v = .tuple #[] ∧ Mod g 210 (hsh (compress x buf) buf n) w w' := by
  refine ret_enter Tryz.func166 rfl Tryz.ntmps166 rfl ?_
  have hgl : g < w.heap.size := by
    rcases Nat.lt_or_ge g w.heap.size with h | h
    · exact h
    · simp [Array.getElem?_eq_none h] at hb
  have hS := St.startM (· ≠ g) (fun b hb => by omega) hb (hsh_good x.words buf n) (fun h => h rfl)
  apply wc_seq
  apply wc_region
  apply wl_alloc; assumption; exact rfl
  intro g1 ok w1 hS1 _ _
  repeat (first | refine wk ?_ | (apply wl_alloc; assumption; exact rfl; intro _ _ _ _ _ _) | (apply wl_boxS; assumption; exact rfl; exact rfl; exact rfl; intro _ _ _ _ _ _) | (apply wl_boxV; assumption; exact rfl; exact rfl; exact rfl; intro _ _ _ _ _ _) | (apply wl_storeS; assumption; exact rfl; exact rfl; (repeat (first | exact Upd.here | apply Upd.there)); exact rfl; exact rfl; exact rfl; intro _ _ _) | (apply wl_storeV; assumption; exact rfl; exact rfl; (repeat (first | exact Upd.here | apply Upd.there)); exact rfl; exact rfl; exact rfl; intro _ _ _) | (apply wl_buildL; assumption; exact rfl; exact rfl; exact rfl; exact rfl; exact rfl; exact rfl; exact rfl; exact rfl; exact rfl; intro _ _ _ _ _))
  clear hS
  replace hS1 : St ⟨w, (· ≠ g), (· = g)⟩ ok [.var g1 206 (wv buf 0), .var g 210 (hsh x buf n)] w1 := hS1
  refine wc_loop (α := Nat) (fun i => [(0, .pointer (some ⟨g, 0, none⟩)), (2, .pointer (some ⟨g1, 0, none⟩)), (22, .int .i64 (i : Int))])
    (fun i w' => i ≤ 16 ∧ St ⟨w, (· ≠ g), (· = g)⟩ ok [.var g1 206 (wv buf i), .var g 210 (hsh x buf n)] w') (fun i => 16 - i) 0 ⟨rfl, rfl, rfl, trivial⟩ ⟨by omega, hS1⟩ ?_
  intro i w2 ⟨hi, hS⟩
  repeat (first | refine wk ?_ | (apply wl_alloc; assumption; exact rfl; intro _ _ _ _ _ _) | (apply wl_boxS; assumption; exact rfl; exact rfl; exact rfl; intro _ _ _ _ _ _) | (apply wl_boxV; assumption; exact rfl; exact rfl; exact rfl; intro _ _ _ _ _ _) | (apply wl_storeS; assumption; exact rfl; exact rfl; (repeat (first | exact Upd.here | apply Upd.there)); exact rfl; exact rfl; exact rfl; intro _ _ _) | (apply wl_storeV; assumption; exact rfl; exact rfl; (repeat (first | exact Upd.here | apply Upd.there)); exact rfl; exact rfl; exact rfl; intro _ _ _) | (apply wl_buildL; assumption; exact rfl; exact rfl; exact rfl; exact rfl; exact rfl; exact rfl; exact rfl; exact rfl; exact rfl; intro _ _ _ _ _))
  refine wc_cond rfl (fun hlt => ?_) (fun hlt => ?_)
  · repeat (first | refine wk ?_ | (apply wl_alloc; assumption; exact rfl; intro _ _ _ _ _ _) | (apply wl_boxS; assumption; exact rfl; exact rfl; exact rfl; intro _ _ _ _ _ _) | (apply wl_boxV; assumption; exact rfl; exact rfl; exact rfl; intro _ _ _ _ _ _) | (apply wl_storeS; assumption; exact rfl; exact rfl; (repeat (first | exact Upd.here | apply Upd.there)); exact rfl; exact rfl; exact rfl; intro _ _ _) | (apply wl_storeV; assumption; exact rfl; exact rfl; (repeat (first | exact Upd.here | apply Upd.there)); exact rfl; exact rfl; exact rfl; intro _ _ _) | (apply wl_buildL; assumption; exact rfl; exact rfl; exact rfl; exact rfl; exact rfl; exact rfl; exact rfl; exact rfl; exact rfl; intro _ _ _ _ _))
    apply wl_sliceAA (4 * i) (4 * i + 4); exact rfl; exact rfl; exact rfl; omega; omega; omega; omega; omega; exact rfl
    repeat (first | refine wk ?_ | (apply wl_alloc; assumption; exact rfl; intro _ _ _ _ _ _) | (apply wl_boxS; assumption; exact rfl; exact rfl; exact rfl; intro _ _ _ _ _ _) | (apply wl_boxV; assumption; exact rfl; exact rfl; exact rfl; intro _ _ _ _ _ _) | (apply wl_storeS; assumption; exact rfl; exact rfl; (repeat (first | exact Upd.here | apply Upd.there)); exact rfl; exact rfl; exact rfl; intro _ _ _) | (apply wl_storeV; assumption; exact rfl; exact rfl; (repeat (first | exact Upd.here | apply Upd.there)); exact rfl; exact rfl; exact rfl; intro _ _ _) | (apply wl_buildL; assumption; exact rfl; exact rfl; exact rfl; exact rfl; exact rfl; exact rfl; exact rfl; exact rfl; exact rfl; intro _ _ _ _ _))
    refine wc_as 34 rfl (show Value.int .i64 _ = .int .i64 4 by congr 1; omega) ?_
    refine wc_loop (α := Nat) (fun j => [(0, .pointer (some ⟨g, 0, none⟩)), (2, .pointer (some ⟨g1, 0, none⟩)), (22, .int .i64 (i : Int)), (3, .int .i64 (i : Int)), (33, .slice (some ⟨g, 8 + 4 * i * 1, none⟩) (4 * i + 4 - 4 * i) (64 - 4 * i)), (34, .int .i64 4), (35, .int .i64 (j : Int))])
      (fun j w' => j ≤ 4 ∧ St ⟨w, (· ≠ g), (· = g)⟩ ok [.var g1 206 ((wv buf i).set i (w32v (partW buf i j))), .var g 210 (hsh x buf n)] w') (fun j => 4 - j) 0 ⟨rfl, rfl, rfl, rfl, rfl, rfl, rfl, trivial⟩ ⟨by omega, ?_⟩ ?_
    · have : (wv buf i).set i (w32v (partW buf i 0)) = wv buf i := wv_zero buf i (by omega)
      rw [this]
      exact hS
    intro j w3 ⟨hj, hS⟩
    repeat (first | refine wk ?_ | (apply wl_alloc; assumption; exact rfl; intro _ _ _ _ _ _) | (apply wl_boxS; assumption; exact rfl; exact rfl; exact rfl; intro _ _ _ _ _ _) | (apply wl_boxV; assumption; exact rfl; exact rfl; exact rfl; intro _ _ _ _ _ _) | (apply wl_storeS; assumption; exact rfl; exact rfl; (repeat (first | exact Upd.here | apply Upd.there)); exact rfl; exact rfl; exact rfl; intro _ _ _) | (apply wl_storeV; assumption; exact rfl; exact rfl; (repeat (first | exact Upd.here | apply Upd.there)); exact rfl; exact rfl; exact rfl; intro _ _ _) | (apply wl_buildL; assumption; exact rfl; exact rfl; exact rfl; exact rfl; exact rfl; exact rfl; exact rfl; exact rfl; exact rfl; intro _ _ _ _ _))
    refine wc_cond rfl (fun hjl => ?_) (fun hjl => ?_)
    · repeat (first | refine wk ?_ | (apply wl_alloc; assumption; exact rfl; intro _ _ _ _ _ _) | (apply wl_boxS; assumption; exact rfl; exact rfl; exact rfl; intro _ _ _ _ _ _) | (apply wl_boxV; assumption; exact rfl; exact rfl; exact rfl; intro _ _ _ _ _ _) | (apply wl_storeS; assumption; exact rfl; exact rfl; (repeat (first | exact Upd.here | apply Upd.there)); exact rfl; exact rfl; exact rfl; intro _ _ _) | (apply wl_storeV; assumption; exact rfl; exact rfl; (repeat (first | exact Upd.here | apply Upd.there)); exact rfl; exact rfl; exact rfl; intro _ _ _) | (apply wl_buildL; assumption; exact rfl; exact rfl; exact rfl; exact rfl; exact rfl; exact rfl; exact rfl; exact rfl; exact rfl; intro _ _ _ _ _))
      apply wl_idxP j; exact rfl; exact rfl; exact rfl; omega; exact rfl
      apply wl_loadU; assumption; exact rfl; (repeat (first | exact Has.here | apply Has.there)); exact hsh_units _ _ _; rw [show 8 + 4 * i * 1 + j * 1 = 8 + (4 * i + j) by omega]; exact hsh_b x buf n (4 * i + j) hl (by omega); exact rfl
      repeat (first | refine wk ?_ | (apply wl_alloc; assumption; exact rfl; intro _ _ _ _ _ _) | (apply wl_boxS; assumption; exact rfl; exact rfl; exact rfl; intro _ _ _ _ _ _) | (apply wl_boxV; assumption; exact rfl; exact rfl; exact rfl; intro _ _ _ _ _ _) | (apply wl_storeS; assumption; exact rfl; exact rfl; (repeat (first | exact Upd.here | apply Upd.there)); exact rfl; exact rfl; exact rfl; intro _ _ _) | (apply wl_storeV; assumption; exact rfl; exact rfl; (repeat (first | exact Upd.here | apply Upd.there)); exact rfl; exact rfl; exact rfl; intro _ _ _) | (apply wl_buildL; assumption; exact rfl; exact rfl; exact rfl; exact rfl; exact rfl; exact rfl; exact rfl; exact rfl; exact rfl; intro _ _ _ _ _))
      apply wl_idxA i; exact rfl; exact rfl; exact rfl; omega; exact rfl
      apply wl_loadU; assumption; exact rfl; (repeat (first | exact Has.here | apply Has.there)); exact (wv_units _ _).set rfl _; rw [show 0 + i * 1 = i by omega, List.getElem?_set_self (by rw [wv_len _ _ (by omega)]; omega)]; exact rfl
      apply wl_shl32 8; exact rfl; exact rfl; exact rfl; omega; exact rfl
      repeat (first | refine wk ?_ | (apply wl_alloc; assumption; exact rfl; intro _ _ _ _ _ _) | (apply wl_boxS; assumption; exact rfl; exact rfl; exact rfl; intro _ _ _ _ _ _) | (apply wl_boxV; assumption; exact rfl; exact rfl; exact rfl; intro _ _ _ _ _ _) | (apply wl_storeS; assumption; exact rfl; exact rfl; (repeat (first | exact Upd.here | apply Upd.there)); exact rfl; exact rfl; exact rfl; intro _ _ _) | (apply wl_storeV; assumption; exact rfl; exact rfl; (repeat (first | exact Upd.here | apply Upd.there)); exact rfl; exact rfl; exact rfl; intro _ _ _) | (apply wl_buildL; assumption; exact rfl; exact rfl; exact rfl; exact rfl; exact rfl; exact rfl; exact rfl; exact rfl; exact rfl; intro _ _ _ _ _))
      apply wl_idxA i; exact rfl; exact rfl; exact rfl; omega; exact rfl
      apply wl_storeU; assumption; exact rfl; exact rfl; (repeat (first | exact Upd.here | apply Upd.there)); exact (wv_units _ _).set rfl _; exact rfl; exact w32v_good _; rw [List.length_set, wv_len _ _ (by omega)]; omega
      intro w4 hS4 _
      repeat (first | refine wk ?_ | (apply wl_alloc; assumption; exact rfl; intro _ _ _ _ _ _) | (apply wl_boxS; assumption; exact rfl; exact rfl; exact rfl; intro _ _ _ _ _ _) | (apply wl_boxV; assumption; exact rfl; exact rfl; exact rfl; intro _ _ _ _ _ _) | (apply wl_storeS; assumption; exact rfl; exact rfl; (repeat (first | exact Upd.here | apply Upd.there)); exact rfl; exact rfl; exact rfl; intro _ _ _) | (apply wl_storeV; assumption; exact rfl; exact rfl; (repeat (first | exact Upd.here | apply Upd.there)); exact rfl; exact rfl; exact rfl; intro _ _ _) | (apply wl_buildL; assumption; exact rfl; exact rfl; exact rfl; exact rfl; exact rfl; exact rfl; exact rfl; exact rfl; exact rfl; intro _ _ _ _ _))
      refine we_round (j + 1) ⟨rfl, rfl, rfl, rfl, rfl, rfl, rfl, trivial⟩ ⟨by omega, ?_⟩ (by omega)
      rw [show 0 + i * 1 = i by omega, List.set_set] at hS4
      exact hS4
    · repeat (first | refine wk ?_ | (apply wl_alloc; assumption; exact rfl; intro _ _ _ _ _ _) | (apply wl_boxS; assumption; exact rfl; exact rfl; exact rfl; intro _ _ _ _ _ _) | (apply wl_boxV; assumption; exact rfl; exact rfl; exact rfl; intro _ _ _ _ _ _) | (apply wl_storeS; assumption; exact rfl; exact rfl; (repeat (first | exact Upd.here | apply Upd.there)); exact rfl; exact rfl; exact rfl; intro _ _ _) | (apply wl_storeV; assumption; exact rfl; exact rfl; (repeat (first | exact Upd.here | apply Upd.there)); exact rfl; exact rfl; exact rfl; intro _ _ _) | (apply wl_buildL; assumption; exact rfl; exact rfl; exact rfl; exact rfl; exact rfl; exact rfl; exact rfl; exact rfl; exact rfl; intro _ _ _ _ _))
      refine we_round (i + 1) ⟨rfl, rfl, rfl, trivial⟩ ⟨by omega, ?_⟩ (by omega)
      obtain rfl : j = 4 := by omega
      rw [partW_four, wv_next buf i (by omega) (wordAt buf i) (by rw [ws, if_pos (by omega)])] at hS
      exact hS
  · obtain rfl : i = 16 := by omega
    repeat (first | refine wk ?_ | (apply wl_alloc; assumption; exact rfl; intro _ _ _ _ _ _) | (apply wl_boxS; assumption; exact rfl; exact rfl; exact rfl; intro _ _ _ _ _ _) | (apply wl_boxV; assumption; exact rfl; exact rfl; exact rfl; intro _ _ _ _ _ _) | (apply wl_storeS; assumption; exact rfl; exact rfl; (repeat (first | exact Upd.here | apply Upd.there)); exact rfl; exact rfl; exact rfl; intro _ _ _) | (apply wl_storeV; assumption; exact rfl; exact rfl; (repeat (first | exact Upd.here | apply Upd.there)); exact rfl; exact rfl; exact rfl; intro _ _ _) | (apply wl_buildL; assumption; exact rfl; exact rfl; exact rfl; exact rfl; exact rfl; exact rfl; exact rfl; exact rfl; exact rfl; intro _ _ _ _ _))
    refine wc_loop (α := Nat) (fun i => [(0, .pointer (some ⟨g, 0, none⟩)), (2, .pointer (some ⟨g1, 0, none⟩)), (6, .int .i64 (i : Int))])
      (fun i w' => 16 ≤ i ∧ i ≤ 64 ∧ ∃ ok, St ⟨w, (· ≠ g), (· = g)⟩ ok [.var g1 206 (wv buf i), .var g 210 (hsh x buf n)] w') (fun i => 64 - i) 16 ⟨rfl, rfl, rfl, trivial⟩ ⟨by omega, by omega, ok, hS⟩ ?_
    clear hS hS1 hi hlt
    intro i w2 ⟨hi1, hi2, ok, hS⟩
    repeat (first | refine wk ?_ | (apply wl_alloc; assumption; exact rfl; intro _ _ _ _ _ _) | (apply wl_boxS; assumption; exact rfl; exact rfl; exact rfl; intro _ _ _ _ _ _) | (apply wl_boxV; assumption; exact rfl; exact rfl; exact rfl; intro _ _ _ _ _ _) | (apply wl_storeS; assumption; exact rfl; exact rfl; (repeat (first | exact Upd.here | apply Upd.there)); exact rfl; exact rfl; exact rfl; intro _ _ _) | (apply wl_storeV; assumption; exact rfl; exact rfl; (repeat (first | exact Upd.here | apply Upd.there)); exact rfl; exact rfl; exact rfl; intro _ _ _) | (apply wl_buildL; assumption; exact rfl; exact rfl; exact rfl; exact rfl; exact rfl; exact rfl; exact rfl; exact rfl; exact rfl; intro _ _ _ _ _))
    refine wc_cond rfl (fun hlt => ?_) (fun hlt => ?_)
    · repeat (first | refine wk ?_ | (apply wl_alloc; assumption; exact rfl; intro _ _ _ _ _ _) | (apply wl_boxS; assumption; exact rfl; exact rfl; exact rfl; intro _ _ _ _ _ _) | (apply wl_boxV; assumption; exact rfl; exact rfl; exact rfl; intro _ _ _ _ _ _) | (apply wl_storeS; assumption; exact rfl; exact rfl; (repeat (first | exact Upd.here | apply Upd.there)); exact rfl; exact rfl; exact rfl; intro _ _ _) | (apply wl_storeV; assumption; exact rfl; exact rfl; (repeat (first | exact Upd.here | apply Upd.there)); exact rfl; exact rfl; exact rfl; intro _ _ _) | (apply wl_buildL; assumption; exact rfl; exact rfl; exact rfl; exact rfl; exact rfl; exact rfl; exact rfl; exact rfl; exact rfl; intro _ _ _ _ _))
      apply wc_draw 10 [54, 55, 56, 57, 58, 59, 60, 61, 7, 8] [] [.eqv ?_, .eqv ?_, .eqv ?_, .eqv ?_, .eqv ?_, .eqv ?_, .eqv ?_, .eqv ?_, .eqv ?_, .eqv ?_] mixed; assumption; kernel_rfl; exact rfl; exact rfl; exact rfl
      apply obls_cons
      intro _ _ _ _
      repeat (first | (apply given_eqv; exact rfl; exact rfl; exact rfl) | (apply given_nil; exact rfl))
      repeat (first | refine wk ?_ | (apply wl_alloc; assumption; exact rfl; intro _ _ _ _ _ _) | (apply wl_boxS; assumption; exact rfl; exact rfl; exact rfl; intro _ _ _ _ _ _) | (apply wl_boxV; assumption; exact rfl; exact rfl; exact rfl; intro _ _ _ _ _ _) | (apply wl_storeS; assumption; exact rfl; exact rfl; (repeat (first | exact Upd.here | apply Upd.there)); exact rfl; exact rfl; exact rfl; intro _ _ _) | (apply wl_storeV; assumption; exact rfl; exact rfl; (repeat (first | exact Upd.here | apply Upd.there)); exact rfl; exact rfl; exact rfl; intro _ _ _) | (apply wl_buildL; assumption; exact rfl; exact rfl; exact rfl; exact rfl; exact rfl; exact rfl; exact rfl; exact rfl; exact rfl; intro _ _ _ _ _))
      first | (apply we_gotE; assumption; exact rfl) | (apply we_gotX; assumption; assumption; exact rfl)
      apply obls_cons
      intro _ _ _ _
      repeat (first | (apply given_eqv; exact rfl; exact rfl; exact rfl) | (apply given_nil; exact rfl))
      repeat (first | refine wk ?_ | (apply wl_alloc; assumption; exact rfl; intro _ _ _ _ _ _) | (apply wl_boxS; assumption; exact rfl; exact rfl; exact rfl; intro _ _ _ _ _ _) | (apply wl_boxV; assumption; exact rfl; exact rfl; exact rfl; intro _ _ _ _ _ _) | (apply wl_storeS; assumption; exact rfl; exact rfl; (repeat (first | exact Upd.here | apply Upd.there)); exact rfl; exact rfl; exact rfl; intro _ _ _) | (apply wl_storeV; assumption; exact rfl; exact rfl; (repeat (first | exact Upd.here | apply Upd.there)); exact rfl; exact rfl; exact rfl; intro _ _ _) | (apply wl_buildL; assumption; exact rfl; exact rfl; exact rfl; exact rfl; exact rfl; exact rfl; exact rfl; exact rfl; exact rfl; intro _ _ _ _ _))
      first | (apply we_gotE; assumption; exact rfl) | (apply we_gotX; assumption; assumption; exact rfl)
      apply obls_cons
      intro _ _ _ _
      repeat (first | (apply given_eqv; exact rfl; exact rfl; exact rfl) | (apply given_nil; exact rfl))
      apply wl_idxA (i - 15); exact rfl; exact rfl; omega; omega; exact rfl
      repeat (first | refine wk ?_ | (apply wl_alloc; assumption; exact rfl; intro _ _ _ _ _ _) | (apply wl_boxS; assumption; exact rfl; exact rfl; exact rfl; intro _ _ _ _ _ _) | (apply wl_boxV; assumption; exact rfl; exact rfl; exact rfl; intro _ _ _ _ _ _) | (apply wl_storeS; assumption; exact rfl; exact rfl; (repeat (first | exact Upd.here | apply Upd.there)); exact rfl; exact rfl; exact rfl; intro _ _ _) | (apply wl_storeV; assumption; exact rfl; exact rfl; (repeat (first | exact Upd.here | apply Upd.there)); exact rfl; exact rfl; exact rfl; intro _ _ _) | (apply wl_buildL; assumption; exact rfl; exact rfl; exact rfl; exact rfl; exact rfl; exact rfl; exact rfl; exact rfl; exact rfl; intro _ _ _ _ _))
      first | (apply we_gotE; assumption; exact rfl) | (apply we_gotX; assumption; assumption; exact rfl)
      apply obls_cons
      intro _ _ _ _
      repeat (first | (apply given_eqv; exact rfl; exact rfl; exact rfl) | (apply given_nil; exact rfl))
      apply wl_loadU; assumption; exact rfl; (repeat (first | exact Has.here | apply Has.there)); exact wv_units _ _; exact wv_get buf i (0 + (i - 15) * 1) (by omega); exact rfl
      repeat (first | refine wk ?_ | (apply wl_alloc; assumption; exact rfl; intro _ _ _ _ _ _) | (apply wl_boxS; assumption; exact rfl; exact rfl; exact rfl; intro _ _ _ _ _ _) | (apply wl_boxV; assumption; exact rfl; exact rfl; exact rfl; intro _ _ _ _ _ _) | (apply wl_storeS; assumption; exact rfl; exact rfl; (repeat (first | exact Upd.here | apply Upd.there)); exact rfl; exact rfl; exact rfl; intro _ _ _) | (apply wl_storeV; assumption; exact rfl; exact rfl; (repeat (first | exact Upd.here | apply Upd.there)); exact rfl; exact rfl; exact rfl; intro _ _ _) | (apply wl_buildL; assumption; exact rfl; exact rfl; exact rfl; exact rfl; exact rfl; exact rfl; exact rfl; exact rfl; exact rfl; intro _ _ _ _ _))
      first | (apply we_gotE; assumption; exact rfl) | (apply we_gotX; assumption; assumption; exact rfl)
      apply obls_cons
      intro _ _ _ _
      repeat (first | (apply given_eqv; exact rfl; exact rfl; exact rfl) | (apply given_nil; exact rfl))
      repeat (first | refine wk ?_ | (apply wl_alloc; assumption; exact rfl; intro _ _ _ _ _ _) | (apply wl_boxS; assumption; exact rfl; exact rfl; exact rfl; intro _ _ _ _ _ _) | (apply wl_boxV; assumption; exact rfl; exact rfl; exact rfl; intro _ _ _ _ _ _) | (apply wl_storeS; assumption; exact rfl; exact rfl; (repeat (first | exact Upd.here | apply Upd.there)); exact rfl; exact rfl; exact rfl; intro _ _ _) | (apply wl_storeV; assumption; exact rfl; exact rfl; (repeat (first | exact Upd.here | apply Upd.there)); exact rfl; exact rfl; exact rfl; intro _ _ _) | (apply wl_buildL; assumption; exact rfl; exact rfl; exact rfl; exact rfl; exact rfl; exact rfl; exact rfl; exact rfl; exact rfl; intro _ _ _ _ _))
      first | (apply we_gotE; assumption; exact rfl) | (apply we_gotX; assumption; assumption; exact rfl)
      apply obls_cons
      intro _ _ _ _
      repeat (first | (apply given_eqv; exact rfl; exact rfl; exact rfl) | (apply given_nil; exact rfl))
      repeat (first | refine wk ?_ | (apply wl_alloc; assumption; exact rfl; intro _ _ _ _ _ _) | (apply wl_boxS; assumption; exact rfl; exact rfl; exact rfl; intro _ _ _ _ _ _) | (apply wl_boxV; assumption; exact rfl; exact rfl; exact rfl; intro _ _ _ _ _ _) | (apply wl_storeS; assumption; exact rfl; exact rfl; (repeat (first | exact Upd.here | apply Upd.there)); exact rfl; exact rfl; exact rfl; intro _ _ _) | (apply wl_storeV; assumption; exact rfl; exact rfl; (repeat (first | exact Upd.here | apply Upd.there)); exact rfl; exact rfl; exact rfl; intro _ _ _) | (apply wl_buildL; assumption; exact rfl; exact rfl; exact rfl; exact rfl; exact rfl; exact rfl; exact rfl; exact rfl; exact rfl; intro _ _ _ _ _))
      first | (apply we_gotE; assumption; exact rfl) | (apply we_gotX; assumption; assumption; exact rfl)
      apply obls_cons
      intro _ _ _ _
      repeat (first | (apply given_eqv; exact rfl; exact rfl; exact rfl) | (apply given_nil; exact rfl))
      apply wl_idxA (i - 2); exact rfl; exact rfl; omega; omega; exact rfl
      repeat (first | refine wk ?_ | (apply wl_alloc; assumption; exact rfl; intro _ _ _ _ _ _) | (apply wl_boxS; assumption; exact rfl; exact rfl; exact rfl; intro _ _ _ _ _ _) | (apply wl_boxV; assumption; exact rfl; exact rfl; exact rfl; intro _ _ _ _ _ _) | (apply wl_storeS; assumption; exact rfl; exact rfl; (repeat (first | exact Upd.here | apply Upd.there)); exact rfl; exact rfl; exact rfl; intro _ _ _) | (apply wl_storeV; assumption; exact rfl; exact rfl; (repeat (first | exact Upd.here | apply Upd.there)); exact rfl; exact rfl; exact rfl; intro _ _ _) | (apply wl_buildL; assumption; exact rfl; exact rfl; exact rfl; exact rfl; exact rfl; exact rfl; exact rfl; exact rfl; exact rfl; intro _ _ _ _ _))
      first | (apply we_gotE; assumption; exact rfl) | (apply we_gotX; assumption; assumption; exact rfl)
      apply obls_cons
      intro _ _ _ _
      repeat (first | (apply given_eqv; exact rfl; exact rfl; exact rfl) | (apply given_nil; exact rfl))
      apply wl_loadU; assumption; exact rfl; (repeat (first | exact Has.here | apply Has.there)); exact wv_units _ _; exact wv_get buf i (0 + (i - 2) * 1) (by omega); exact rfl
      repeat (first | refine wk ?_ | (apply wl_alloc; assumption; exact rfl; intro _ _ _ _ _ _) | (apply wl_boxS; assumption; exact rfl; exact rfl; exact rfl; intro _ _ _ _ _ _) | (apply wl_boxV; assumption; exact rfl; exact rfl; exact rfl; intro _ _ _ _ _ _) | (apply wl_storeS; assumption; exact rfl; exact rfl; (repeat (first | exact Upd.here | apply Upd.there)); exact rfl; exact rfl; exact rfl; intro _ _ _) | (apply wl_storeV; assumption; exact rfl; exact rfl; (repeat (first | exact Upd.here | apply Upd.there)); exact rfl; exact rfl; exact rfl; intro _ _ _) | (apply wl_buildL; assumption; exact rfl; exact rfl; exact rfl; exact rfl; exact rfl; exact rfl; exact rfl; exact rfl; exact rfl; intro _ _ _ _ _))
      first | (apply we_gotE; assumption; exact rfl) | (apply we_gotX; assumption; assumption; exact rfl)
      apply obls_cons
      intro _ _ _ _
      repeat (first | (apply given_eqv; exact rfl; exact rfl; exact rfl) | (apply given_nil; exact rfl))
      repeat (first | refine wk ?_ | (apply wl_alloc; assumption; exact rfl; intro _ _ _ _ _ _) | (apply wl_boxS; assumption; exact rfl; exact rfl; exact rfl; intro _ _ _ _ _ _) | (apply wl_boxV; assumption; exact rfl; exact rfl; exact rfl; intro _ _ _ _ _ _) | (apply wl_storeS; assumption; exact rfl; exact rfl; (repeat (first | exact Upd.here | apply Upd.there)); exact rfl; exact rfl; exact rfl; intro _ _ _) | (apply wl_storeV; assumption; exact rfl; exact rfl; (repeat (first | exact Upd.here | apply Upd.there)); exact rfl; exact rfl; exact rfl; intro _ _ _) | (apply wl_buildL; assumption; exact rfl; exact rfl; exact rfl; exact rfl; exact rfl; exact rfl; exact rfl; exact rfl; exact rfl; intro _ _ _ _ _))
      first | (apply we_gotE; assumption; exact rfl) | (apply we_gotX; assumption; assumption; exact rfl)
      apply obls_cons
      intro _ _ _ _
      repeat (first | (apply given_eqv; exact rfl; exact rfl; exact rfl) | (apply given_nil; exact rfl))
      repeat (first | refine wk ?_ | (apply wl_alloc; assumption; exact rfl; intro _ _ _ _ _ _) | (apply wl_boxS; assumption; exact rfl; exact rfl; exact rfl; intro _ _ _ _ _ _) | (apply wl_boxV; assumption; exact rfl; exact rfl; exact rfl; intro _ _ _ _ _ _) | (apply wl_storeS; assumption; exact rfl; exact rfl; (repeat (first | exact Upd.here | apply Upd.there)); exact rfl; exact rfl; exact rfl; intro _ _ _) | (apply wl_storeV; assumption; exact rfl; exact rfl; (repeat (first | exact Upd.here | apply Upd.there)); exact rfl; exact rfl; exact rfl; intro _ _ _) | (apply wl_buildL; assumption; exact rfl; exact rfl; exact rfl; exact rfl; exact rfl; exact rfl; exact rfl; exact rfl; exact rfl; intro _ _ _ _ _))
      first | (apply we_gotE; assumption; exact rfl) | (apply we_gotX; assumption; assumption; exact rfl)
      apply obls_nil
      intro _ _ _ _
      repeat (first | (apply given_eqv; exact rfl; exact rfl; exact rfl) | (apply given_nil; exact rfl))
      repeat (first | refine wk ?_ | (apply wl_alloc; assumption; exact rfl; intro _ _ _ _ _ _) | (apply wl_boxS; assumption; exact rfl; exact rfl; exact rfl; intro _ _ _ _ _ _) | (apply wl_boxV; assumption; exact rfl; exact rfl; exact rfl; intro _ _ _ _ _ _) | (apply wl_storeS; assumption; exact rfl; exact rfl; (repeat (first | exact Upd.here | apply Upd.there)); exact rfl; exact rfl; exact rfl; intro _ _ _) | (apply wl_storeV; assumption; exact rfl; exact rfl; (repeat (first | exact Upd.here | apply Upd.there)); exact rfl; exact rfl; exact rfl; intro _ _ _) | (apply wl_buildL; assumption; exact rfl; exact rfl; exact rfl; exact rfl; exact rfl; exact rfl; exact rfl; exact rfl; exact rfl; intro _ _ _ _ _))
      apply wl_callE; assumption; exact rfl; exact rotr_spec _ 7 (by decide) (by decide) _; exact rfl
      rintro _ _ rfl _ _
      repeat (first | refine wk ?_ | (apply wl_alloc; assumption; exact rfl; intro _ _ _ _ _ _) | (apply wl_boxS; assumption; exact rfl; exact rfl; exact rfl; intro _ _ _ _ _ _) | (apply wl_boxV; assumption; exact rfl; exact rfl; exact rfl; intro _ _ _ _ _ _) | (apply wl_storeS; assumption; exact rfl; exact rfl; (repeat (first | exact Upd.here | apply Upd.there)); exact rfl; exact rfl; exact rfl; intro _ _ _) | (apply wl_storeV; assumption; exact rfl; exact rfl; (repeat (first | exact Upd.here | apply Upd.there)); exact rfl; exact rfl; exact rfl; intro _ _ _) | (apply wl_buildL; assumption; exact rfl; exact rfl; exact rfl; exact rfl; exact rfl; exact rfl; exact rfl; exact rfl; exact rfl; intro _ _ _ _ _))
      apply wl_callE; assumption; exact rfl; exact rotr_spec _ 18 (by decide) (by decide) _; exact rfl
      rintro _ _ rfl _ _
      repeat (first | refine wk ?_ | (apply wl_alloc; assumption; exact rfl; intro _ _ _ _ _ _) | (apply wl_boxS; assumption; exact rfl; exact rfl; exact rfl; intro _ _ _ _ _ _) | (apply wl_boxV; assumption; exact rfl; exact rfl; exact rfl; intro _ _ _ _ _ _) | (apply wl_storeS; assumption; exact rfl; exact rfl; (repeat (first | exact Upd.here | apply Upd.there)); exact rfl; exact rfl; exact rfl; intro _ _ _) | (apply wl_storeV; assumption; exact rfl; exact rfl; (repeat (first | exact Upd.here | apply Upd.there)); exact rfl; exact rfl; exact rfl; intro _ _ _) | (apply wl_buildL; assumption; exact rfl; exact rfl; exact rfl; exact rfl; exact rfl; exact rfl; exact rfl; exact rfl; exact rfl; intro _ _ _ _ _))
      refine wl_shr32 3 rfl rfl rfl (by decide) rfl ?_
      repeat (first | refine wk ?_ | (apply wl_alloc; assumption; exact rfl; intro _ _ _ _ _ _) | (apply wl_boxS; assumption; exact rfl; exact rfl; exact rfl; intro _ _ _ _ _ _) | (apply wl_boxV; assumption; exact rfl; exact rfl; exact rfl; intro _ _ _ _ _ _) | (apply wl_storeS; assumption; exact rfl; exact rfl; (repeat (first | exact Upd.here | apply Upd.there)); exact rfl; exact rfl; exact rfl; intro _ _ _) | (apply wl_storeV; assumption; exact rfl; exact rfl; (repeat (first | exact Upd.here | apply Upd.there)); exact rfl; exact rfl; exact rfl; intro _ _ _) | (apply wl_buildL; assumption; exact rfl; exact rfl; exact rfl; exact rfl; exact rfl; exact rfl; exact rfl; exact rfl; exact rfl; intro _ _ _ _ _))
      apply wl_callE; assumption; exact rfl; exact rotr_spec _ 17 (by decide) (by decide) _; exact rfl
      rintro _ _ rfl _ _
      repeat (first | refine wk ?_ | (apply wl_alloc; assumption; exact rfl; intro _ _ _ _ _ _) | (apply wl_boxS; assumption; exact rfl; exact rfl; exact rfl; intro _ _ _ _ _ _) | (apply wl_boxV; assumption; exact rfl; exact rfl; exact rfl; intro _ _ _ _ _ _) | (apply wl_storeS; assumption; exact rfl; exact rfl; (repeat (first | exact Upd.here | apply Upd.there)); exact rfl; exact rfl; exact rfl; intro _ _ _) | (apply wl_storeV; assumption; exact rfl; exact rfl; (repeat (first | exact Upd.here | apply Upd.there)); exact rfl; exact rfl; exact rfl; intro _ _ _) | (apply wl_buildL; assumption; exact rfl; exact rfl; exact rfl; exact rfl; exact rfl; exact rfl; exact rfl; exact rfl; exact rfl; intro _ _ _ _ _))
      apply wl_callE; assumption; exact rfl; exact rotr_spec _ 19 (by decide) (by decide) _; exact rfl
      rintro _ _ rfl _ _
      repeat (first | refine wk ?_ | (apply wl_alloc; assumption; exact rfl; intro _ _ _ _ _ _) | (apply wl_boxS; assumption; exact rfl; exact rfl; exact rfl; intro _ _ _ _ _ _) | (apply wl_boxV; assumption; exact rfl; exact rfl; exact rfl; intro _ _ _ _ _ _) | (apply wl_storeS; assumption; exact rfl; exact rfl; (repeat (first | exact Upd.here | apply Upd.there)); exact rfl; exact rfl; exact rfl; intro _ _ _) | (apply wl_storeV; assumption; exact rfl; exact rfl; (repeat (first | exact Upd.here | apply Upd.there)); exact rfl; exact rfl; exact rfl; intro _ _ _) | (apply wl_buildL; assumption; exact rfl; exact rfl; exact rfl; exact rfl; exact rfl; exact rfl; exact rfl; exact rfl; exact rfl; intro _ _ _ _ _))
      refine wl_shr32 10 rfl rfl rfl (by decide) rfl ?_
      repeat (first | refine wk ?_ | (apply wl_alloc; assumption; exact rfl; intro _ _ _ _ _ _) | (apply wl_boxS; assumption; exact rfl; exact rfl; exact rfl; intro _ _ _ _ _ _) | (apply wl_boxV; assumption; exact rfl; exact rfl; exact rfl; intro _ _ _ _ _ _) | (apply wl_storeS; assumption; exact rfl; exact rfl; (repeat (first | exact Upd.here | apply Upd.there)); exact rfl; exact rfl; exact rfl; intro _ _ _) | (apply wl_storeV; assumption; exact rfl; exact rfl; (repeat (first | exact Upd.here | apply Upd.there)); exact rfl; exact rfl; exact rfl; intro _ _ _) | (apply wl_buildL; assumption; exact rfl; exact rfl; exact rfl; exact rfl; exact rfl; exact rfl; exact rfl; exact rfl; exact rfl; intro _ _ _ _ _))
      apply wc_draw 15 [78, 79, 80, 81, 82, 83, 84, 85, 86, 87, 88, 89, 90, 91, 92] [] [.eqv ?_, .eqv ?_, .eqv ?_, .eqv ?_, .eqv ?_, .eqv ?_, .eqv ?_, .eqv ?_, .eqv ?_, .eqv ?_, .eqv ?_, .eqv ?_, .eqv ?_, .eqv ?_, .eqv ?_] mixed; assumption; kernel_rfl; exact rfl; exact rfl; exact rfl
      apply obls_cons
      intro _ _ _ _
      repeat (first | (apply given_eqv; exact rfl; exact rfl; exact rfl) | (apply given_nil; exact rfl))
      repeat (first | refine wk ?_ | (apply wl_alloc; assumption; exact rfl; intro _ _ _ _ _ _) | (apply wl_boxS; assumption; exact rfl; exact rfl; exact rfl; intro _ _ _ _ _ _) | (apply wl_boxV; assumption; exact rfl; exact rfl; exact rfl; intro _ _ _ _ _ _) | (apply wl_storeS; assumption; exact rfl; exact rfl; (repeat (first | exact Upd.here | apply Upd.there)); exact rfl; exact rfl; exact rfl; intro _ _ _) | (apply wl_storeV; assumption; exact rfl; exact rfl; (repeat (first | exact Upd.here | apply Upd.there)); exact rfl; exact rfl; exact rfl; intro _ _ _) | (apply wl_buildL; assumption; exact rfl; exact rfl; exact rfl; exact rfl; exact rfl; exact rfl; exact rfl; exact rfl; exact rfl; intro _ _ _ _ _))
      first | (apply we_gotE; assumption; exact rfl) | (apply we_gotX; assumption; assumption; exact rfl)
      apply obls_cons
      intro _ _ _ _
      repeat (first | (apply given_eqv; exact rfl; exact rfl; exact rfl) | (apply given_nil; exact rfl))
      repeat (first | refine wk ?_ | (apply wl_alloc; assumption; exact rfl; intro _ _ _ _ _ _) | (apply wl_boxS; assumption; exact rfl; exact rfl; exact rfl; intro _ _ _ _ _ _) | (apply wl_boxV; assumption; exact rfl; exact rfl; exact rfl; intro _ _ _ _ _ _) | (apply wl_storeS; assumption; exact rfl; exact rfl; (repeat (first | exact Upd.here | apply Upd.there)); exact rfl; exact rfl; exact rfl; intro _ _ _) | (apply wl_storeV; assumption; exact rfl; exact rfl; (repeat (first | exact Upd.here | apply Upd.there)); exact rfl; exact rfl; exact rfl; intro _ _ _) | (apply wl_buildL; assumption; exact rfl; exact rfl; exact rfl; exact rfl; exact rfl; exact rfl; exact rfl; exact rfl; exact rfl; intro _ _ _ _ _))
      first | (apply we_gotE; assumption; exact rfl) | (apply we_gotX; assumption; assumption; exact rfl)
      apply obls_cons
      intro _ _ _ _
      repeat (first | (apply given_eqv; exact rfl; exact rfl; exact rfl) | (apply given_nil; exact rfl))
      repeat (first | refine wk ?_ | (apply wl_alloc; assumption; exact rfl; intro _ _ _ _ _ _) | (apply wl_boxS; assumption; exact rfl; exact rfl; exact rfl; intro _ _ _ _ _ _) | (apply wl_boxV; assumption; exact rfl; exact rfl; exact rfl; intro _ _ _ _ _ _) | (apply wl_storeS; assumption; exact rfl; exact rfl; (repeat (first | exact Upd.here | apply Upd.there)); exact rfl; exact rfl; exact rfl; intro _ _ _) | (apply wl_storeV; assumption; exact rfl; exact rfl; (repeat (first | exact Upd.here | apply Upd.there)); exact rfl; exact rfl; exact rfl; intro _ _ _) | (apply wl_buildL; assumption; exact rfl; exact rfl; exact rfl; exact rfl; exact rfl; exact rfl; exact rfl; exact rfl; exact rfl; intro _ _ _ _ _))
      first | (apply we_gotE; assumption; exact rfl) | (apply we_gotX; assumption; assumption; exact rfl)
      apply obls_cons
      intro _ _ _ _
      repeat (first | (apply given_eqv; exact rfl; exact rfl; exact rfl) | (apply given_nil; exact rfl))
      apply wl_idxA (i - 16); exact rfl; exact rfl; omega; omega; exact rfl
      repeat (first | refine wk ?_ | (apply wl_alloc; assumption; exact rfl; intro _ _ _ _ _ _) | (apply wl_boxS; assumption; exact rfl; exact rfl; exact rfl; intro _ _ _ _ _ _) | (apply wl_boxV; assumption; exact rfl; exact rfl; exact rfl; intro _ _ _ _ _ _) | (apply wl_storeS; assumption; exact rfl; exact rfl; (repeat (first | exact Upd.here | apply Upd.there)); exact rfl; exact rfl; exact rfl; intro _ _ _) | (apply wl_storeV; assumption; exact rfl; exact rfl; (repeat (first | exact Upd.here | apply Upd.there)); exact rfl; exact rfl; exact rfl; intro _ _ _) | (apply wl_buildL; assumption; exact rfl; exact rfl; exact rfl; exact rfl; exact rfl; exact rfl; exact rfl; exact rfl; exact rfl; intro _ _ _ _ _))
      first | (apply we_gotE; assumption; exact rfl) | (apply we_gotX; assumption; assumption; exact rfl)
      apply obls_cons
      intro _ _ _ _
      repeat (first | (apply given_eqv; exact rfl; exact rfl; exact rfl) | (apply given_nil; exact rfl))
      apply wl_loadU; assumption; exact rfl; (repeat (first | exact Has.here | apply Has.there)); exact wv_units _ _; exact wv_get buf i (0 + (i - 16) * 1) (by omega); exact rfl
      repeat (first | refine wk ?_ | (apply wl_alloc; assumption; exact rfl; intro _ _ _ _ _ _) | (apply wl_boxS; assumption; exact rfl; exact rfl; exact rfl; intro _ _ _ _ _ _) | (apply wl_boxV; assumption; exact rfl; exact rfl; exact rfl; intro _ _ _ _ _ _) | (apply wl_storeS; assumption; exact rfl; exact rfl; (repeat (first | exact Upd.here | apply Upd.there)); exact rfl; exact rfl; exact rfl; intro _ _ _) | (apply wl_storeV; assumption; exact rfl; exact rfl; (repeat (first | exact Upd.here | apply Upd.there)); exact rfl; exact rfl; exact rfl; intro _ _ _) | (apply wl_buildL; assumption; exact rfl; exact rfl; exact rfl; exact rfl; exact rfl; exact rfl; exact rfl; exact rfl; exact rfl; intro _ _ _ _ _))
      first | (apply we_gotE; assumption; exact rfl) | (apply we_gotX; assumption; assumption; exact rfl)
      apply obls_cons
      intro _ _ _ _
      repeat (first | (apply given_eqv; exact rfl; exact rfl; exact rfl) | (apply given_nil; exact rfl))
      repeat (first | refine wk ?_ | (apply wl_alloc; assumption; exact rfl; intro _ _ _ _ _ _) | (apply wl_boxS; assumption; exact rfl; exact rfl; exact rfl; intro _ _ _ _ _ _) | (apply wl_boxV; assumption; exact rfl; exact rfl; exact rfl; intro _ _ _ _ _ _) | (apply wl_storeS; assumption; exact rfl; exact rfl; (repeat (first | exact Upd.here | apply Upd.there)); exact rfl; exact rfl; exact rfl; intro _ _ _) | (apply wl_storeV; assumption; exact rfl; exact rfl; (repeat (first | exact Upd.here | apply Upd.there)); exact rfl; exact rfl; exact rfl; intro _ _ _) | (apply wl_buildL; assumption; exact rfl; exact rfl; exact rfl; exact rfl; exact rfl; exact rfl; exact rfl; exact rfl; exact rfl; intro _ _ _ _ _))
      first | (apply we_gotE; assumption; exact rfl) | (apply we_gotX; assumption; assumption; exact rfl)
      apply obls_cons
      intro _ _ _ _
      repeat (first | (apply given_eqv; exact rfl; exact rfl; exact rfl) | (apply given_nil; exact rfl))
      repeat (first | refine wk ?_ | (apply wl_alloc; assumption; exact rfl; intro _ _ _ _ _ _) | (apply wl_boxS; assumption; exact rfl; exact rfl; exact rfl; intro _ _ _ _ _ _) | (apply wl_boxV; assumption; exact rfl; exact rfl; exact rfl; intro _ _ _ _ _ _) | (apply wl_storeS; assumption; exact rfl; exact rfl; (repeat (first | exact Upd.here | apply Upd.there)); exact rfl; exact rfl; exact rfl; intro _ _ _) | (apply wl_storeV; assumption; exact rfl; exact rfl; (repeat (first | exact Upd.here | apply Upd.there)); exact rfl; exact rfl; exact rfl; intro _ _ _) | (apply wl_buildL; assumption; exact rfl; exact rfl; exact rfl; exact rfl; exact rfl; exact rfl; exact rfl; exact rfl; exact rfl; intro _ _ _ _ _))
      first | (apply we_gotE; assumption; exact rfl) | (apply we_gotX; assumption; assumption; exact rfl)
      apply obls_cons
      intro _ _ _ _
      repeat (first | (apply given_eqv; exact rfl; exact rfl; exact rfl) | (apply given_nil; exact rfl))
      repeat (first | refine wk ?_ | (apply wl_alloc; assumption; exact rfl; intro _ _ _ _ _ _) | (apply wl_boxS; assumption; exact rfl; exact rfl; exact rfl; intro _ _ _ _ _ _) | (apply wl_boxV; assumption; exact rfl; exact rfl; exact rfl; intro _ _ _ _ _ _) | (apply wl_storeS; assumption; exact rfl; exact rfl; (repeat (first | exact Upd.here | apply Upd.there)); exact rfl; exact rfl; exact rfl; intro _ _ _) | (apply wl_storeV; assumption; exact rfl; exact rfl; (repeat (first | exact Upd.here | apply Upd.there)); exact rfl; exact rfl; exact rfl; intro _ _ _) | (apply wl_buildL; assumption; exact rfl; exact rfl; exact rfl; exact rfl; exact rfl; exact rfl; exact rfl; exact rfl; exact rfl; intro _ _ _ _ _))
      first | (apply we_gotE; assumption; exact rfl) | (apply we_gotX; assumption; assumption; exact rfl)
      apply obls_cons
      intro _ _ _ _
      repeat (first | (apply given_eqv; exact rfl; exact rfl; exact rfl) | (apply given_nil; exact rfl))
      repeat (first | refine wk ?_ | (apply wl_alloc; assumption; exact rfl; intro _ _ _ _ _ _) | (apply wl_boxS; assumption; exact rfl; exact rfl; exact rfl; intro _ _ _ _ _ _) | (apply wl_boxV; assumption; exact rfl; exact rfl; exact rfl; intro _ _ _ _ _ _) | (apply wl_storeS; assumption; exact rfl; exact rfl; (repeat (first | exact Upd.here | apply Upd.there)); exact rfl; exact rfl; exact rfl; intro _ _ _) | (apply wl_storeV; assumption; exact rfl; exact rfl; (repeat (first | exact Upd.here | apply Upd.there)); exact rfl; exact rfl; exact rfl; intro _ _ _) | (apply wl_buildL; assumption; exact rfl; exact rfl; exact rfl; exact rfl; exact rfl; exact rfl; exact rfl; exact rfl; exact rfl; intro _ _ _ _ _))
      first | (apply we_gotE; assumption; exact rfl) | (apply we_gotX; assumption; assumption; exact rfl)
      apply obls_cons
      intro _ _ _ _
      repeat (first | (apply given_eqv; exact rfl; exact rfl; exact rfl) | (apply given_nil; exact rfl))
      apply wl_idxA (i - 7); exact rfl; exact rfl; omega; omega; exact rfl
      repeat (first | refine wk ?_ | (apply wl_alloc; assumption; exact rfl; intro _ _ _ _ _ _) | (apply wl_boxS; assumption; exact rfl; exact rfl; exact rfl; intro _ _ _ _ _ _) | (apply wl_boxV; assumption; exact rfl; exact rfl; exact rfl; intro _ _ _ _ _ _) | (apply wl_storeS; assumption; exact rfl; exact rfl; (repeat (first | exact Upd.here | apply Upd.there)); exact rfl; exact rfl; exact rfl; intro _ _ _) | (apply wl_storeV; assumption; exact rfl; exact rfl; (repeat (first | exact Upd.here | apply Upd.there)); exact rfl; exact rfl; exact rfl; intro _ _ _) | (apply wl_buildL; assumption; exact rfl; exact rfl; exact rfl; exact rfl; exact rfl; exact rfl; exact rfl; exact rfl; exact rfl; intro _ _ _ _ _))
      first | (apply we_gotE; assumption; exact rfl) | (apply we_gotX; assumption; assumption; exact rfl)
      apply obls_cons
      intro _ _ _ _
      repeat (first | (apply given_eqv; exact rfl; exact rfl; exact rfl) | (apply given_nil; exact rfl))
      apply wl_loadU; assumption; exact rfl; (repeat (first | exact Has.here | apply Has.there)); exact wv_units _ _; exact wv_get buf i (0 + (i - 7) * 1) (by omega); exact rfl
      repeat (first | refine wk ?_ | (apply wl_alloc; assumption; exact rfl; intro _ _ _ _ _ _) | (apply wl_boxS; assumption; exact rfl; exact rfl; exact rfl; intro _ _ _ _ _ _) | (apply wl_boxV; assumption; exact rfl; exact rfl; exact rfl; intro _ _ _ _ _ _) | (apply wl_storeS; assumption; exact rfl; exact rfl; (repeat (first | exact Upd.here | apply Upd.there)); exact rfl; exact rfl; exact rfl; intro _ _ _) | (apply wl_storeV; assumption; exact rfl; exact rfl; (repeat (first | exact Upd.here | apply Upd.there)); exact rfl; exact rfl; exact rfl; intro _ _ _) | (apply wl_buildL; assumption; exact rfl; exact rfl; exact rfl; exact rfl; exact rfl; exact rfl; exact rfl; exact rfl; exact rfl; intro _ _ _ _ _))
      first | (apply we_gotE; assumption; exact rfl) | (apply we_gotX; assumption; assumption; exact rfl)
      apply obls_cons
      intro _ _ _ _
      repeat (first | (apply given_eqv; exact rfl; exact rfl; exact rfl) | (apply given_nil; exact rfl))
      repeat (first | refine wk ?_ | (apply wl_alloc; assumption; exact rfl; intro _ _ _ _ _ _) | (apply wl_boxS; assumption; exact rfl; exact rfl; exact rfl; intro _ _ _ _ _ _) | (apply wl_boxV; assumption; exact rfl; exact rfl; exact rfl; intro _ _ _ _ _ _) | (apply wl_storeS; assumption; exact rfl; exact rfl; (repeat (first | exact Upd.here | apply Upd.there)); exact rfl; exact rfl; exact rfl; intro _ _ _) | (apply wl_storeV; assumption; exact rfl; exact rfl; (repeat (first | exact Upd.here | apply Upd.there)); exact rfl; exact rfl; exact rfl; intro _ _ _) | (apply wl_buildL; assumption; exact rfl; exact rfl; exact rfl; exact rfl; exact rfl; exact rfl; exact rfl; exact rfl; exact rfl; intro _ _ _ _ _))
      first | (apply we_gotE; assumption; exact rfl) | (apply we_gotX; assumption; assumption; exact rfl)
      apply obls_cons
      intro _ _ _ _
      repeat (first | (apply given_eqv; exact rfl; exact rfl; exact rfl) | (apply given_nil; exact rfl))
      repeat (first | refine wk ?_ | (apply wl_alloc; assumption; exact rfl; intro _ _ _ _ _ _) | (apply wl_boxS; assumption; exact rfl; exact rfl; exact rfl; intro _ _ _ _ _ _) | (apply wl_boxV; assumption; exact rfl; exact rfl; exact rfl; intro _ _ _ _ _ _) | (apply wl_storeS; assumption; exact rfl; exact rfl; (repeat (first | exact Upd.here | apply Upd.there)); exact rfl; exact rfl; exact rfl; intro _ _ _) | (apply wl_storeV; assumption; exact rfl; exact rfl; (repeat (first | exact Upd.here | apply Upd.there)); exact rfl; exact rfl; exact rfl; intro _ _ _) | (apply wl_buildL; assumption; exact rfl; exact rfl; exact rfl; exact rfl; exact rfl; exact rfl; exact rfl; exact rfl; exact rfl; intro _ _ _ _ _))
      first | (apply we_gotE; assumption; exact rfl) | (apply we_gotX; assumption; assumption; exact rfl)
      apply obls_cons
      intro _ _ _ _
      repeat (first | (apply given_eqv; exact rfl; exact rfl; exact rfl) | (apply given_nil; exact rfl))
      repeat (first | refine wk ?_ | (apply wl_alloc; assumption; exact rfl; intro _ _ _ _ _ _) | (apply wl_boxS; assumption; exact rfl; exact rfl; exact rfl; intro _ _ _ _ _ _) | (apply wl_boxV; assumption; exact rfl; exact rfl; exact rfl; intro _ _ _ _ _ _) | (apply wl_storeS; assumption; exact rfl; exact rfl; (repeat (first | exact Upd.here | apply Upd.there)); exact rfl; exact rfl; exact rfl; intro _ _ _) | (apply wl_storeV; assumption; exact rfl; exact rfl; (repeat (first | exact Upd.here | apply Upd.there)); exact rfl; exact rfl; exact rfl; intro _ _ _) | (apply wl_buildL; assumption; exact rfl; exact rfl; exact rfl; exact rfl; exact rfl; exact rfl; exact rfl; exact rfl; exact rfl; intro _ _ _ _ _))
      first | (apply we_gotE; assumption; exact rfl) | (apply we_gotX; assumption; assumption; exact rfl)
      apply obls_cons
      intro _ _ _ _
      repeat (first | (apply given_eqv; exact rfl; exact rfl; exact rfl) | (apply given_nil; exact rfl))
      apply wl_idxA i; exact rfl; exact rfl; omega; omega; exact rfl
      repeat (first | refine wk ?_ | (apply wl_alloc; assumption; exact rfl; intro _ _ _ _ _ _) | (apply wl_boxS; assumption; exact rfl; exact rfl; exact rfl; intro _ _ _ _ _ _) | (apply wl_boxV; assumption; exact rfl; exact rfl; exact rfl; intro _ _ _ _ _ _) | (apply wl_storeS; assumption; exact rfl; exact rfl; (repeat (first | exact Upd.here | apply Upd.there)); exact rfl; exact rfl; exact rfl; intro _ _ _) | (apply wl_storeV; assumption; exact rfl; exact rfl; (repeat (first | exact Upd.here | apply Upd.there)); exact rfl; exact rfl; exact rfl; intro _ _ _) | (apply wl_buildL; assumption; exact rfl; exact rfl; exact rfl; exact rfl; exact rfl; exact rfl; exact rfl; exact rfl; exact rfl; intro _ _ _ _ _))
      first | (apply we_gotE; assumption; exact rfl) | (apply we_gotX; assumption; assumption; exact rfl)
      apply obls_nil
      intro _ _ _ _
      repeat (first | (apply given_eqv; exact rfl; exact rfl; exact rfl) | (apply given_nil; exact rfl))
      repeat (first | refine wk ?_ | (apply wl_alloc; assumption; exact rfl; intro _ _ _ _ _ _) | (apply wl_boxS; assumption; exact rfl; exact rfl; exact rfl; intro _ _ _ _ _ _) | (apply wl_boxV; assumption; exact rfl; exact rfl; exact rfl; intro _ _ _ _ _ _) | (apply wl_storeS; assumption; exact rfl; exact rfl; (repeat (first | exact Upd.here | apply Upd.there)); exact rfl; exact rfl; exact rfl; intro _ _ _) | (apply wl_storeV; assumption; exact rfl; exact rfl; (repeat (first | exact Upd.here | apply Upd.there)); exact rfl; exact rfl; exact rfl; intro _ _ _) | (apply wl_buildL; assumption; exact rfl; exact rfl; exact rfl; exact rfl; exact rfl; exact rfl; exact rfl; exact rfl; exact rfl; intro _ _ _ _ _))
      apply wl_storeU; assumption; exact rfl; exact rfl; (repeat (first | exact Upd.here | apply Upd.there)); exact wv_units _ _; exact rfl; exact w32v_good _; rw [wv_len _ _ (by omega)]; omega
      intro w4 hS4 _
      repeat (first | refine wk ?_ | (apply wl_alloc; assumption; exact rfl; intro _ _ _ _ _ _) | (apply wl_boxS; assumption; exact rfl; exact rfl; exact rfl; intro _ _ _ _ _ _) | (apply wl_boxV; assumption; exact rfl; exact rfl; exact rfl; intro _ _ _ _ _ _) | (apply wl_storeS; assumption; exact rfl; exact rfl; (repeat (first | exact Upd.here | apply Upd.there)); exact rfl; exact rfl; exact rfl; intro _ _ _) | (apply wl_storeV; assumption; exact rfl; exact rfl; (repeat (first | exact Upd.here | apply Upd.there)); exact rfl; exact rfl; exact rfl; intro _ _ _) | (apply wl_buildL; assumption; exact rfl; exact rfl; exact rfl; exact rfl; exact rfl; exact rfl; exact rfl; exact rfl; exact rfl; intro _ _ _ _ _))
      have hnx := wv_next buf i (by omega) (nextW (ws buf i) i) (by rw [ws, if_neg (by omega)])
      simp only [Nat.zero_add, Nat.mul_one] at hS4
      unfold nextW sig0 sig1 at hnx
      rw [hnx] at hS4
      exact we_round (i + 1) ⟨rfl, rfl, rfl, trivial⟩ ⟨by omega, by omega, _, hS4⟩ (by omega)
    · obtain rfl : i = 64 := by omega
      repeat (first | refine wk ?_ | (apply wl_alloc; assumption; exact rfl; intro _ _ _ _ _ _) | (apply wl_boxS; assumption; exact rfl; exact rfl; exact rfl; intro _ _ _ _ _ _) | (apply wl_boxV; assumption; exact rfl; exact rfl; exact rfl; intro _ _ _ _ _ _) | (apply wl_storeS; assumption; exact rfl; exact rfl; (repeat (first | exact Upd.here | apply Upd.there)); exact rfl; exact rfl; exact rfl; intro _ _ _) | (apply wl_storeV; assumption; exact rfl; exact rfl; (repeat (first | exact Upd.here | apply Upd.there)); exact rfl; exact rfl; exact rfl; intro _ _ _) | (apply wl_buildL; assumption; exact rfl; exact rfl; exact rfl; exact rfl; exact rfl; exact rfl; exact rfl; exact rfl; exact rfl; intro _ _ _ _ _))
      apply wl_loadUA (xs := [w32v x.a, w32v x.b, w32v x.c, w32v x.d, w32v x.e, w32v x.f, w32v x.g, w32v x.h]); assumption; exact rfl; (repeat (first | exact Has.here | apply Has.there)); exact hsh_units _ _ _; exact rfl; exact rfl; exact rfl
      repeat (first | refine wk ?_ | (apply wl_alloc; assumption; exact rfl; intro _ _ _ _ _ _) | (apply wl_boxS; assumption; exact rfl; exact rfl; exact rfl; intro _ _ _ _ _ _) | (apply wl_boxV; assumption; exact rfl; exact rfl; exact rfl; intro _ _ _ _ _ _) | (apply wl_storeS; assumption; exact rfl; exact rfl; (repeat (first | exact Upd.here | apply Upd.there)); exact rfl; exact rfl; exact rfl; intro _ _ _) | (apply wl_storeV; assumption; exact rfl; exact rfl; (repeat (first | exact Upd.here | apply Upd.there)); exact rfl; exact rfl; exact rfl; intro _ _ _) | (apply wl_buildL; assumption; exact rfl; exact rfl; exact rfl; exact rfl; exact rfl; exact rfl; exact rfl; exact rfl; exact rfl; intro _ _ _ _ _))
      rename_i g2 okx _ _ _ _ _ hS2 _
      refine wc_loop (α := Nat) (fun k => [(0, .pointer (some ⟨g, 0, none⟩)), (2, .pointer (some ⟨g1, 0, none⟩)), (11, .pointer (some ⟨g2, 0, none⟩)), (97, .int .i64 (k : Int))])
        (fun k w' => k ≤ 64 ∧ ∃ ok, St ⟨w, (· ≠ g), (· = g)⟩ ok [.var g2 190 [w32v (roundsTo buf x k).a, w32v (roundsTo buf x k).b, w32v (roundsTo buf x k).c, w32v (roundsTo buf x k).d, w32v (roundsTo buf x k).e, w32v (roundsTo buf x k).f, w32v (roundsTo buf x k).g, w32v (roundsTo buf x k).h], .var g1 206 (wv buf 64), .var g 210 (hsh x buf n)] w') (fun k => 64 - k) 0 ⟨rfl, rfl, rfl, rfl, trivial⟩ ⟨by omega, okx, hS2⟩ ?_
      clear hS hS2 hi1 hi2 hlt
      intro k w3 ⟨hk, ok, hS⟩
      generalize hy : roundsTo buf x k = y at hS
      repeat (first | refine wk ?_ | (apply wl_alloc; assumption; exact rfl; intro _ _ _ _ _ _) | (apply wl_boxS; assumption; exact rfl; exact rfl; exact rfl; intro _ _ _ _ _ _) | (apply wl_boxV; assumption; exact rfl; exact rfl; exact rfl; intro _ _ _ _ _ _) | (apply wl_storeS; assumption; exact rfl; exact rfl; (repeat (first | exact Upd.here | apply Upd.there)); exact rfl; exact rfl; exact rfl; intro _ _ _) | (apply wl_storeV; assumption; exact rfl; exact rfl; (repeat (first | exact Upd.here | apply Upd.there)); exact rfl; exact rfl; exact rfl; intro _ _ _) | (apply wl_buildL; assumption; exact rfl; exact rfl; exact rfl; exact rfl; exact rfl; exact rfl; exact rfl; exact rfl; exact rfl; intro _ _ _ _ _))
      refine wc_cond rfl (fun hlt => ?_) (fun hlt => ?_)
      · repeat (first | refine wk ?_ | (apply wl_alloc; assumption; exact rfl; intro _ _ _ _ _ _) | (apply wl_boxS; assumption; exact rfl; exact rfl; exact rfl; intro _ _ _ _ _ _) | (apply wl_boxV; assumption; exact rfl; exact rfl; exact rfl; intro _ _ _ _ _ _) | (apply wl_storeS; assumption; exact rfl; exact rfl; (repeat (first | exact Upd.here | apply Upd.there)); exact rfl; exact rfl; exact rfl; intro _ _ _) | (apply wl_storeV; assumption; exact rfl; exact rfl; (repeat (first | exact Upd.here | apply Upd.there)); exact rfl; exact rfl; exact rfl; intro _ _ _) | (apply wl_buildL; assumption; exact rfl; exact rfl; exact rfl; exact rfl; exact rfl; exact rfl; exact rfl; exact rfl; exact rfl; intro _ _ _ _ _))
        apply wc_draw 6 [100, 101, 102, 103, 13, 14] [] [.eqv ?_, .eqv ?_, .eqv ?_, .eqv ?_, .eqv ?_, .eqv ?_] mixed; assumption; kernel_rfl; exact rfl; exact rfl; exact rfl
        apply obls_cons
        intro _ _ _ _
        repeat (first | (apply given_eqv; exact rfl; exact rfl; exact rfl) | (apply given_nil; exact rfl))
        repeat (first | refine wk ?_ | (apply wl_alloc; assumption; exact rfl; intro _ _ _ _ _ _) | (apply wl_boxS; assumption; exact rfl; exact rfl; exact rfl; intro _ _ _ _ _ _) | (apply wl_boxV; assumption; exact rfl; exact rfl; exact rfl; intro _ _ _ _ _ _) | (apply wl_storeS; assumption; exact rfl; exact rfl; (repeat (first | exact Upd.here | apply Upd.there)); exact rfl; exact rfl; exact rfl; intro _ _ _) | (apply wl_storeV; assumption; exact rfl; exact rfl; (repeat (first | exact Upd.here | apply Upd.there)); exact rfl; exact rfl; exact rfl; intro _ _ _) | (apply wl_buildL; assumption; exact rfl; exact rfl; exact rfl; exact rfl; exact rfl; exact rfl; exact rfl; exact rfl; exact rfl; intro _ _ _ _ _))
        first | (apply we_gotE; assumption; exact rfl) | (apply we_gotX; assumption; assumption; exact rfl)
        apply obls_cons
        intro _ _ _ _
        repeat (first | (apply given_eqv; exact rfl; exact rfl; exact rfl) | (apply given_nil; exact rfl))
        repeat (first | refine wk ?_ | (apply wl_alloc; assumption; exact rfl; intro _ _ _ _ _ _) | (apply wl_boxS; assumption; exact rfl; exact rfl; exact rfl; intro _ _ _ _ _ _) | (apply wl_boxV; assumption; exact rfl; exact rfl; exact rfl; intro _ _ _ _ _ _) | (apply wl_storeS; assumption; exact rfl; exact rfl; (repeat (first | exact Upd.here | apply Upd.there)); exact rfl; exact rfl; exact rfl; intro _ _ _) | (apply wl_storeV; assumption; exact rfl; exact rfl; (repeat (first | exact Upd.here | apply Upd.there)); exact rfl; exact rfl; exact rfl; intro _ _ _) | (apply wl_buildL; assumption; exact rfl; exact rfl; exact rfl; exact rfl; exact rfl; exact rfl; exact rfl; exact rfl; exact rfl; intro _ _ _ _ _))
        first | (apply we_gotE; assumption; exact rfl) | (apply we_gotX; assumption; assumption; exact rfl)
        apply obls_cons
        intro _ _ _ _
        repeat (first | (apply given_eqv; exact rfl; exact rfl; exact rfl) | (apply given_nil; exact rfl))
        repeat (first | refine wk ?_ | (apply wl_alloc; assumption; exact rfl; intro _ _ _ _ _ _) | (apply wl_boxS; assumption; exact rfl; exact rfl; exact rfl; intro _ _ _ _ _ _) | (apply wl_boxV; assumption; exact rfl; exact rfl; exact rfl; intro _ _ _ _ _ _) | (apply wl_storeS; assumption; exact rfl; exact rfl; (repeat (first | exact Upd.here | apply Upd.there)); exact rfl; exact rfl; exact rfl; intro _ _ _) | (apply wl_storeV; assumption; exact rfl; exact rfl; (repeat (first | exact Upd.here | apply Upd.there)); exact rfl; exact rfl; exact rfl; intro _ _ _) | (apply wl_buildL; assumption; exact rfl; exact rfl; exact rfl; exact rfl; exact rfl; exact rfl; exact rfl; exact rfl; exact rfl; intro _ _ _ _ _))
        first | (apply we_gotE; assumption; exact rfl) | (apply we_gotX; assumption; assumption; exact rfl)
        apply obls_cons
        intro _ _ _ _
        repeat (first | (apply given_eqv; exact rfl; exact rfl; exact rfl) | (apply given_nil; exact rfl))
        repeat (first | refine wk ?_ | (apply wl_alloc; assumption; exact rfl; intro _ _ _ _ _ _) | (apply wl_boxS; assumption; exact rfl; exact rfl; exact rfl; intro _ _ _ _ _ _) | (apply wl_boxV; assumption; exact rfl; exact rfl; exact rfl; intro _ _ _ _ _ _) | (apply wl_storeS; assumption; exact rfl; exact rfl; (repeat (first | exact Upd.here | apply Upd.there)); exact rfl; exact rfl; exact rfl; intro _ _ _) | (apply wl_storeV; assumption; exact rfl; exact rfl; (repeat (first | exact Upd.here | apply Upd.there)); exact rfl; exact rfl; exact rfl; intro _ _ _) | (apply wl_buildL; assumption; exact rfl; exact rfl; exact rfl; exact rfl; exact rfl; exact rfl; exact rfl; exact rfl; exact rfl; intro _ _ _ _ _))
        first | (apply we_gotE; assumption; exact rfl) | (apply we_gotX; assumption; assumption; exact rfl)
        apply obls_cons
        intro _ _ _ _
        repeat (first | (apply given_eqv; exact rfl; exact rfl; exact rfl) | (apply given_nil; exact rfl))
        repeat (first | refine wk ?_ | (apply wl_alloc; assumption; exact rfl; intro _ _ _ _ _ _) | (apply wl_boxS; assumption; exact rfl; exact rfl; exact rfl; intro _ _ _ _ _ _) | (apply wl_boxV; assumption; exact rfl; exact rfl; exact rfl; intro _ _ _ _ _ _) | (apply wl_storeS; assumption; exact rfl; exact rfl; (repeat (first | exact Upd.here | apply Upd.there)); exact rfl; exact rfl; exact rfl; intro _ _ _) | (apply wl_storeV; assumption; exact rfl; exact rfl; (repeat (first | exact Upd.here | apply Upd.there)); exact rfl; exact rfl; exact rfl; intro _ _ _) | (apply wl_buildL; assumption; exact rfl; exact rfl; exact rfl; exact rfl; exact rfl; exact rfl; exact rfl; exact rfl; exact rfl; intro _ _ _ _ _))
        first | (apply we_gotE; assumption; exact rfl) | (apply we_gotX; assumption; assumption; exact rfl)
        apply obls_cons
        intro _ _ _ _
        repeat (first | (apply given_eqv; exact rfl; exact rfl; exact rfl) | (apply given_nil; exact rfl))
        repeat (first | refine wk ?_ | (apply wl_alloc; assumption; exact rfl; intro _ _ _ _ _ _) | (apply wl_boxS; assumption; exact rfl; exact rfl; exact rfl; intro _ _ _ _ _ _) | (apply wl_boxV; assumption; exact rfl; exact rfl; exact rfl; intro _ _ _ _ _ _) | (apply wl_storeS; assumption; exact rfl; exact rfl; (repeat (first | exact Upd.here | apply Upd.there)); exact rfl; exact rfl; exact rfl; intro _ _ _) | (apply wl_storeV; assumption; exact rfl; exact rfl; (repeat (first | exact Upd.here | apply Upd.there)); exact rfl; exact rfl; exact rfl; intro _ _ _) | (apply wl_buildL; assumption; exact rfl; exact rfl; exact rfl; exact rfl; exact rfl; exact rfl; exact rfl; exact rfl; exact rfl; intro _ _ _ _ _))
        first | (apply we_gotE; assumption; exact rfl) | (apply we_gotX; assumption; assumption; exact rfl)
        apply obls_nil
        intro _ _ _ _
        repeat (first | (apply given_eqv; exact rfl; exact rfl; exact rfl) | (apply given_nil; exact rfl))
        repeat (first | refine wk ?_ | (apply wl_alloc; assumption; exact rfl; intro _ _ _ _ _ _) | (apply wl_boxS; assumption; exact rfl; exact rfl; exact rfl; intro _ _ _ _ _ _) | (apply wl_boxV; assumption; exact rfl; exact rfl; exact rfl; intro _ _ _ _ _ _) | (apply wl_storeS; assumption; exact rfl; exact rfl; (repeat (first | exact Upd.here | apply Upd.there)); exact rfl; exact rfl; exact rfl; intro _ _ _) | (apply wl_storeV; assumption; exact rfl; exact rfl; (repeat (first | exact Upd.here | apply Upd.there)); exact rfl; exact rfl; exact rfl; intro _ _ _) | (apply wl_buildL; assumption; exact rfl; exact rfl; exact rfl; exact rfl; exact rfl; exact rfl; exact rfl; exact rfl; exact rfl; intro _ _ _ _ _))
        apply wl_callE; assumption; exact rfl; exact rotr_spec _ 6 (by decide) (by decide) _; exact rfl
        rintro _ _ rfl _ _
        repeat (first | refine wk ?_ | (apply wl_alloc; assumption; exact rfl; intro _ _ _ _ _ _) | (apply wl_boxS; assumption; exact rfl; exact rfl; exact rfl; intro _ _ _ _ _ _) | (apply wl_boxV; assumption; exact rfl; exact rfl; exact rfl; intro _ _ _ _ _ _) | (apply wl_storeS; assumption; exact rfl; exact rfl; (repeat (first | exact Upd.here | apply Upd.there)); exact rfl; exact rfl; exact rfl; intro _ _ _) | (apply wl_storeV; assumption; exact rfl; exact rfl; (repeat (first | exact Upd.here | apply Upd.there)); exact rfl; exact rfl; exact rfl; intro _ _ _) | (apply wl_buildL; assumption; exact rfl; exact rfl; exact rfl; exact rfl; exact rfl; exact rfl; exact rfl; exact rfl; exact rfl; intro _ _ _ _ _))
        apply wl_callE; assumption; exact rfl; exact rotr_spec _ 11 (by decide) (by decide) _; exact rfl
        rintro _ _ rfl _ _
        repeat (first | refine wk ?_ | (apply wl_alloc; assumption; exact rfl; intro _ _ _ _ _ _) | (apply wl_boxS; assumption; exact rfl; exact rfl; exact rfl; intro _ _ _ _ _ _) | (apply wl_boxV; assumption; exact rfl; exact rfl; exact rfl; intro _ _ _ _ _ _) | (apply wl_storeS; assumption; exact rfl; exact rfl; (repeat (first | exact Upd.here | apply Upd.there)); exact rfl; exact rfl; exact rfl; intro _ _ _) | (apply wl_storeV; assumption; exact rfl; exact rfl; (repeat (first | exact Upd.here | apply Upd.there)); exact rfl; exact rfl; exact rfl; intro _ _ _) | (apply wl_buildL; assumption; exact rfl; exact rfl; exact rfl; exact rfl; exact rfl; exact rfl; exact rfl; exact rfl; exact rfl; intro _ _ _ _ _))
        apply wl_callE; assumption; exact rfl; exact rotr_spec _ 25 (by decide) (by decide) _; exact rfl
        rintro _ _ rfl _ _
        repeat (first | refine wk ?_ | (apply wl_alloc; assumption; exact rfl; intro _ _ _ _ _ _) | (apply wl_boxS; assumption; exact rfl; exact rfl; exact rfl; intro _ _ _ _ _ _) | (apply wl_boxV; assumption; exact rfl; exact rfl; exact rfl; intro _ _ _ _ _ _) | (apply wl_storeS; assumption; exact rfl; exact rfl; (repeat (first | exact Upd.here | apply Upd.there)); exact rfl; exact rfl; exact rfl; intro _ _ _) | (apply wl_storeV; assumption; exact rfl; exact rfl; (repeat (first | exact Upd.here | apply Upd.there)); exact rfl; exact rfl; exact rfl; intro _ _ _) | (apply wl_buildL; assumption; exact rfl; exact rfl; exact rfl; exact rfl; exact rfl; exact rfl; exact rfl; exact rfl; exact rfl; intro _ _ _ _ _))
        apply wl_callE; assumption; exact rfl; exact rotr_spec _ 2 (by decide) (by decide) _; exact rfl
        rintro _ _ rfl _ _
        repeat (first | refine wk ?_ | (apply wl_alloc; assumption; exact rfl; intro _ _ _ _ _ _) | (apply wl_boxS; assumption; exact rfl; exact rfl; exact rfl; intro _ _ _ _ _ _) | (apply wl_boxV; assumption; exact rfl; exact rfl; exact rfl; intro _ _ _ _ _ _) | (apply wl_storeS; assumption; exact rfl; exact rfl; (repeat (first | exact Upd.here | apply Upd.there)); exact rfl; exact rfl; exact rfl; intro _ _ _) | (apply wl_storeV; assumption; exact rfl; exact rfl; (repeat (first | exact Upd.here | apply Upd.there)); exact rfl; exact rfl; exact rfl; intro _ _ _) | (apply wl_buildL; assumption; exact rfl; exact rfl; exact rfl; exact rfl; exact rfl; exact rfl; exact rfl; exact rfl; exact rfl; intro _ _ _ _ _))
        apply wl_callE; assumption; exact rfl; exact rotr_spec _ 13 (by decide) (by decide) _; exact rfl
        rintro _ _ rfl _ _
        repeat (first | refine wk ?_ | (apply wl_alloc; assumption; exact rfl; intro _ _ _ _ _ _) | (apply wl_boxS; assumption; exact rfl; exact rfl; exact rfl; intro _ _ _ _ _ _) | (apply wl_boxV; assumption; exact rfl; exact rfl; exact rfl; intro _ _ _ _ _ _) | (apply wl_storeS; assumption; exact rfl; exact rfl; (repeat (first | exact Upd.here | apply Upd.there)); exact rfl; exact rfl; exact rfl; intro _ _ _) | (apply wl_storeV; assumption; exact rfl; exact rfl; (repeat (first | exact Upd.here | apply Upd.there)); exact rfl; exact rfl; exact rfl; intro _ _ _) | (apply wl_buildL; assumption; exact rfl; exact rfl; exact rfl; exact rfl; exact rfl; exact rfl; exact rfl; exact rfl; exact rfl; intro _ _ _ _ _))
        apply wl_callE; assumption; exact rfl; exact rotr_spec _ 22 (by decide) (by decide) _; exact rfl
        rintro _ _ rfl _ _
        repeat (first | refine wk ?_ | (apply wl_alloc; assumption; exact rfl; intro _ _ _ _ _ _) | (apply wl_boxS; assumption; exact rfl; exact rfl; exact rfl; intro _ _ _ _ _ _) | (apply wl_boxV; assumption; exact rfl; exact rfl; exact rfl; intro _ _ _ _ _ _) | (apply wl_storeS; assumption; exact rfl; exact rfl; (repeat (first | exact Upd.here | apply Upd.there)); exact rfl; exact rfl; exact rfl; intro _ _ _) | (apply wl_storeV; assumption; exact rfl; exact rfl; (repeat (first | exact Upd.here | apply Upd.there)); exact rfl; exact rfl; exact rfl; intro _ _ _) | (apply wl_buildL; assumption; exact rfl; exact rfl; exact rfl; exact rfl; exact rfl; exact rfl; exact rfl; exact rfl; exact rfl; intro _ _ _ _ _))
        apply wc_draw 15 [142, 143, 144, 145, 146, 147, 148, 149, 150, 151, 152, 153, 154, 155, 19] [] [.eqv ?_, .eqv ?_, .eqv ?_, .eqv ?_, .eqv ?_, .eqv ?_, .eqv ?_, .eqv ?_, .eqv ?_, .eqv ?_, .eqv ?_, .eqv ?_, .eqv ?_, .eqv ?_, .eqv ?_] mixed; assumption; kernel_rfl; exact rfl; exact rfl; exact rfl
        apply obls_cons
        intro _ _ _ _
        repeat (first | (apply given_eqv; exact rfl; exact rfl; exact rfl) | (apply given_nil; exact rfl))
        repeat (first | refine wk ?_ | (apply wl_alloc; assumption; exact rfl; intro _ _ _ _ _ _) | (apply wl_boxS; assumption; exact rfl; exact rfl; exact rfl; intro _ _ _ _ _ _) | (apply wl_boxV; assumption; exact rfl; exact rfl; exact rfl; intro _ _ _ _ _ _) | (apply wl_storeS; assumption; exact rfl; exact rfl; (repeat (first | exact Upd.here | apply Upd.there)); exact rfl; exact rfl; exact rfl; intro _ _ _) | (apply wl_storeV; assumption; exact rfl; exact rfl; (repeat (first | exact Upd.here | apply Upd.there)); exact rfl; exact rfl; exact rfl; intro _ _ _) | (apply wl_buildL; assumption; exact rfl; exact rfl; exact rfl; exact rfl; exact rfl; exact rfl; exact rfl; exact rfl; exact rfl; intro _ _ _ _ _))
        first | (apply we_gotE; assumption; exact rfl) | (apply we_gotX; assumption; assumption; exact rfl)
        apply obls_cons
        intro _ _ _ _
        repeat (first | (apply given_eqv; exact rfl; exact rfl; exact rfl) | (apply given_nil; exact rfl))
        repeat (first | refine wk ?_ | (apply wl_alloc; assumption; exact rfl; intro _ _ _ _ _ _) | (apply wl_boxS; assumption; exact rfl; exact rfl; exact rfl; intro _ _ _ _ _ _) | (apply wl_boxV; assumption; exact rfl; exact rfl; exact rfl; intro _ _ _ _ _ _) | (apply wl_storeS; assumption; exact rfl; exact rfl; (repeat (first | exact Upd.here | apply Upd.there)); exact rfl; exact rfl; exact rfl; intro _ _ _) | (apply wl_storeV; assumption; exact rfl; exact rfl; (repeat (first | exact Upd.here | apply Upd.there)); exact rfl; exact rfl; exact rfl; intro _ _ _) | (apply wl_buildL; assumption; exact rfl; exact rfl; exact rfl; exact rfl; exact rfl; exact rfl; exact rfl; exact rfl; exact rfl; intro _ _ _ _ _))
        first | (apply we_gotE; assumption; exact rfl) | (apply we_gotX; assumption; assumption; exact rfl)
        apply obls_cons
        intro _ _ _ _
        repeat (first | (apply given_eqv; exact rfl; exact rfl; exact rfl) | (apply given_nil; exact rfl))
        repeat (first | refine wk ?_ | (apply wl_alloc; assumption; exact rfl; intro _ _ _ _ _ _) | (apply wl_boxS; assumption; exact rfl; exact rfl; exact rfl; intro _ _ _ _ _ _) | (apply wl_boxV; assumption; exact rfl; exact rfl; exact rfl; intro _ _ _ _ _ _) | (apply wl_storeS; assumption; exact rfl; exact rfl; (repeat (first | exact Upd.here | apply Upd.there)); exact rfl; exact rfl; exact rfl; intro _ _ _) | (apply wl_storeV; assumption; exact rfl; exact rfl; (repeat (first | exact Upd.here | apply Upd.there)); exact rfl; exact rfl; exact rfl; intro _ _ _) | (apply wl_buildL; assumption; exact rfl; exact rfl; exact rfl; exact rfl; exact rfl; exact rfl; exact rfl; exact rfl; exact rfl; intro _ _ _ _ _))
        first | (apply we_gotE; assumption; exact rfl) | (apply we_gotX; assumption; assumption; exact rfl)
        apply obls_cons
        intro _ _ _ _
        repeat (first | (apply given_eqv; exact rfl; exact rfl; exact rfl) | (apply given_nil; exact rfl))
        repeat (first | refine wk ?_ | (apply wl_alloc; assumption; exact rfl; intro _ _ _ _ _ _) | (apply wl_boxS; assumption; exact rfl; exact rfl; exact rfl; intro _ _ _ _ _ _) | (apply wl_boxV; assumption; exact rfl; exact rfl; exact rfl; intro _ _ _ _ _ _) | (apply wl_storeS; assumption; exact rfl; exact rfl; (repeat (first | exact Upd.here | apply Upd.there)); exact rfl; exact rfl; exact rfl; intro _ _ _) | (apply wl_storeV; assumption; exact rfl; exact rfl; (repeat (first | exact Upd.here | apply Upd.there)); exact rfl; exact rfl; exact rfl; intro _ _ _) | (apply wl_buildL; assumption; exact rfl; exact rfl; exact rfl; exact rfl; exact rfl; exact rfl; exact rfl; exact rfl; exact rfl; intro _ _ _ _ _))
        first | (apply we_gotE; assumption; exact rfl) | (apply we_gotX; assumption; assumption; exact rfl)
        apply obls_cons
        intro _ _ _ _
        repeat (first | (apply given_eqv; exact rfl; exact rfl; exact rfl) | (apply given_nil; exact rfl))
        repeat (first | refine wk ?_ | (apply wl_alloc; assumption; exact rfl; intro _ _ _ _ _ _) | (apply wl_boxS; assumption; exact rfl; exact rfl; exact rfl; intro _ _ _ _ _ _) | (apply wl_boxV; assumption; exact rfl; exact rfl; exact rfl; intro _ _ _ _ _ _) | (apply wl_storeS; assumption; exact rfl; exact rfl; (repeat (first | exact Upd.here | apply Upd.there)); exact rfl; exact rfl; exact rfl; intro _ _ _) | (apply wl_storeV; assumption; exact rfl; exact rfl; (repeat (first | exact Upd.here | apply Upd.there)); exact rfl; exact rfl; exact rfl; intro _ _ _) | (apply wl_buildL; assumption; exact rfl; exact rfl; exact rfl; exact rfl; exact rfl; exact rfl; exact rfl; exact rfl; exact rfl; intro _ _ _ _ _))
        first | (apply we_gotE; assumption; exact rfl) | (apply we_gotX; assumption; assumption; exact rfl)
        apply obls_cons
        intro _ _ _ _
        repeat (first | (apply given_eqv; exact rfl; exact rfl; exact rfl) | (apply given_nil; exact rfl))
        repeat (first | refine wk ?_ | (apply wl_alloc; assumption; exact rfl; intro _ _ _ _ _ _) | (apply wl_boxS; assumption; exact rfl; exact rfl; exact rfl; intro _ _ _ _ _ _) | (apply wl_boxV; assumption; exact rfl; exact rfl; exact rfl; intro _ _ _ _ _ _) | (apply wl_storeS; assumption; exact rfl; exact rfl; (repeat (first | exact Upd.here | apply Upd.there)); exact rfl; exact rfl; exact rfl; intro _ _ _) | (apply wl_storeV; assumption; exact rfl; exact rfl; (repeat (first | exact Upd.here | apply Upd.there)); exact rfl; exact rfl; exact rfl; intro _ _ _) | (apply wl_buildL; assumption; exact rfl; exact rfl; exact rfl; exact rfl; exact rfl; exact rfl; exact rfl; exact rfl; exact rfl; intro _ _ _ _ _))
        first | (apply we_gotE; assumption; exact rfl) | (apply we_gotX; assumption; assumption; exact rfl)
        apply obls_cons
        intro _ _ _ _
        repeat (first | (apply given_eqv; exact rfl; exact rfl; exact rfl) | (apply given_nil; exact rfl))
        repeat (first | refine wk ?_ | (apply wl_alloc; assumption; exact rfl; intro _ _ _ _ _ _) | (apply wl_boxS; assumption; exact rfl; exact rfl; exact rfl; intro _ _ _ _ _ _) | (apply wl_boxV; assumption; exact rfl; exact rfl; exact rfl; intro _ _ _ _ _ _) | (apply wl_storeS; assumption; exact rfl; exact rfl; (repeat (first | exact Upd.here | apply Upd.there)); exact rfl; exact rfl; exact rfl; intro _ _ _) | (apply wl_storeV; assumption; exact rfl; exact rfl; (repeat (first | exact Upd.here | apply Upd.there)); exact rfl; exact rfl; exact rfl; intro _ _ _) | (apply wl_buildL; assumption; exact rfl; exact rfl; exact rfl; exact rfl; exact rfl; exact rfl; exact rfl; exact rfl; exact rfl; intro _ _ _ _ _))
        first | (apply we_gotE; assumption; exact rfl) | (apply we_gotX; assumption; assumption; exact rfl)
        apply obls_cons
        intro _ _ _ _
        repeat (first | (apply given_eqv; exact rfl; exact rfl; exact rfl) | (apply given_nil; exact rfl))
        apply wl_idxA k; exact rfl; exact rfl; exact rfl; omega; exact rfl
        repeat (first | refine wk ?_ | (apply wl_alloc; assumption; exact rfl; intro _ _ _ _ _ _) | (apply wl_boxS; assumption; exact rfl; exact rfl; exact rfl; intro _ _ _ _ _ _) | (apply wl_boxV; assumption; exact rfl; exact rfl; exact rfl; intro _ _ _ _ _ _) | (apply wl_storeS; assumption; exact rfl; exact rfl; (repeat (first | exact Upd.here | apply Upd.there)); exact rfl; exact rfl; exact rfl; intro _ _ _) | (apply wl_storeV; assumption; exact rfl; exact rfl; (repeat (first | exact Upd.here | apply Upd.there)); exact rfl; exact rfl; exact rfl; intro _ _ _) | (apply wl_buildL; assumption; exact rfl; exact rfl; exact rfl; exact rfl; exact rfl; exact rfl; exact rfl; exact rfl; exact rfl; intro _ _ _ _ _))
        first | (apply we_gotE; assumption; exact rfl) | (apply we_gotX; assumption; assumption; exact rfl)
        apply obls_cons
        intro _ _ _ _
        repeat (first | (apply given_eqv; exact rfl; exact rfl; exact rfl) | (apply given_nil; exact rfl))
        apply wl_loadG (cs := kTab.map w32v) (v := w32v (kTab.getD k 0)); exact rfl
        · rename_i hS' _
          exact (St.glo hS' hg (fun h => h0 h.symm) (fun h => h2 h.symm)).factors
        · exact Units.map w32v_unit _
        · have hlen : kTab.length = 64 := rfl
          rw [Nat.zero_add, Nat.mul_one]
          simp [hlen, show k < 64 by omega]
        · exact rfl
        repeat (first | refine wk ?_ | (apply wl_alloc; assumption; exact rfl; intro _ _ _ _ _ _) | (apply wl_boxS; assumption; exact rfl; exact rfl; exact rfl; intro _ _ _ _ _ _) | (apply wl_boxV; assumption; exact rfl; exact rfl; exact rfl; intro _ _ _ _ _ _) | (apply wl_storeS; assumption; exact rfl; exact rfl; (repeat (first | exact Upd.here | apply Upd.there)); exact rfl; exact rfl; exact rfl; intro _ _ _) | (apply wl_storeV; assumption; exact rfl; exact rfl; (repeat (first | exact Upd.here | apply Upd.there)); exact rfl; exact rfl; exact rfl; intro _ _ _) | (apply wl_buildL; assumption; exact rfl; exact rfl; exact rfl; exact rfl; exact rfl; exact rfl; exact rfl; exact rfl; exact rfl; intro _ _ _ _ _))
        first | (apply we_gotE; assumption; exact rfl) | (apply we_gotX; assumption; assumption; exact rfl)
        apply obls_cons
        intro _ _ _ _
        repeat (first | (apply given_eqv; exact rfl; exact rfl; exact rfl) | (apply given_nil; exact rfl))
        repeat (first | refine wk ?_ | (apply wl_alloc; assumption; exact rfl; intro _ _ _ _ _ _) | (apply wl_boxS; assumption; exact rfl; exact rfl; exact rfl; intro _ _ _ _ _ _) | (apply wl_boxV; assumption; exact rfl; exact rfl; exact rfl; intro _ _ _ _ _ _) | (apply wl_storeS; assumption; exact rfl; exact rfl; (repeat (first | exact Upd.here | apply Upd.there)); exact rfl; exact rfl; exact rfl; intro _ _ _) | (apply wl_storeV; assumption; exact rfl; exact rfl; (repeat (first | exact Upd.here | apply Upd.there)); exact rfl; exact rfl; exact rfl; intro _ _ _) | (apply wl_buildL; assumption; exact rfl; exact rfl; exact rfl; exact rfl; exact rfl; exact rfl; exact rfl; exact rfl; exact rfl; intro _ _ _ _ _))
        first | (apply we_gotE; assumption; exact rfl) | (apply we_gotX; assumption; assumption; exact rfl)
        apply obls_cons
        intro _ _ _ _
        repeat (first | (apply given_eqv; exact rfl; exact rfl; exact rfl) | (apply given_nil; exact rfl))
        repeat (first | refine wk ?_ | (apply wl_alloc; assumption; exact rfl; intro _ _ _ _ _ _) | (apply wl_boxS; assumption; exact rfl; exact rfl; exact rfl; intro _ _ _ _ _ _) | (apply wl_boxV; assumption; exact rfl; exact rfl; exact rfl; intro _ _ _ _ _ _) | (apply wl_storeS; assumption; exact rfl; exact rfl; (repeat (first | exact Upd.here | apply Upd.there)); exact rfl; exact rfl; exact rfl; intro _ _ _) | (apply wl_storeV; assumption; exact rfl; exact rfl; (repeat (first | exact Upd.here | apply Upd.there)); exact rfl; exact rfl; exact rfl; intro _ _ _) | (apply wl_buildL; assumption; exact rfl; exact rfl; exact rfl; exact rfl; exact rfl; exact rfl; exact rfl; exact rfl; exact rfl; intro _ _ _ _ _))
        first | (apply we_gotE; assumption; exact rfl) | (apply we_gotX; assumption; assumption; exact rfl)
        apply obls_cons
        intro _ _ _ _
        repeat (first | (apply given_eqv; exact rfl; exact rfl; exact rfl) | (apply given_nil; exact rfl))
        apply wl_idxA k; exact rfl; exact rfl; exact rfl; omega; exact rfl
        repeat (first | refine wk ?_ | (apply wl_alloc; assumption; exact rfl; intro _ _ _ _ _ _) | (apply wl_boxS; assumption; exact rfl; exact rfl; exact rfl; intro _ _ _ _ _ _) | (apply wl_boxV; assumption; exact rfl; exact rfl; exact rfl; intro _ _ _ _ _ _) | (apply wl_storeS; assumption; exact rfl; exact rfl; (repeat (first | exact Upd.here | apply Upd.there)); exact rfl; exact rfl; exact rfl; intro _ _ _) | (apply wl_storeV; assumption; exact rfl; exact rfl; (repeat (first | exact Upd.here | apply Upd.there)); exact rfl; exact rfl; exact rfl; intro _ _ _) | (apply wl_buildL; assumption; exact rfl; exact rfl; exact rfl; exact rfl; exact rfl; exact rfl; exact rfl; exact rfl; exact rfl; intro _ _ _ _ _))
        first | (apply we_gotE; assumption; exact rfl) | (apply we_gotX; assumption; assumption; exact rfl)
        apply obls_cons
        intro _ _ _ _
        repeat (first | (apply given_eqv; exact rfl; exact rfl; exact rfl) | (apply given_nil; exact rfl))
        apply wl_loadU; assumption; exact rfl; (repeat (first | exact Has.here | apply Has.there)); exact wv_units _ _; exact wv_get buf 64 (0 + k * 1) (by omega); exact rfl
        repeat (first | refine wk ?_ | (apply wl_alloc; assumption; exact rfl; intro _ _ _ _ _ _) | (apply wl_boxS; assumption; exact rfl; exact rfl; exact rfl; intro _ _ _ _ _ _) | (apply wl_boxV; assumption; exact rfl; exact rfl; exact rfl; intro _ _ _ _ _ _) | (apply wl_storeS; assumption; exact rfl; exact rfl; (repeat (first | exact Upd.here | apply Upd.there)); exact rfl; exact rfl; exact rfl; intro _ _ _) | (apply wl_storeV; assumption; exact rfl; exact rfl; (repeat (first | exact Upd.here | apply Upd.there)); exact rfl; exact rfl; exact rfl; intro _ _ _) | (apply wl_buildL; assumption; exact rfl; exact rfl; exact rfl; exact rfl; exact rfl; exact rfl; exact rfl; exact rfl; exact rfl; intro _ _ _ _ _))
        first | (apply we_gotE; assumption; exact rfl) | (apply we_gotX; assumption; assumption; exact rfl)
        apply obls_cons
        intro _ _ _ _
        repeat (first | (apply given_eqv; exact rfl; exact rfl; exact rfl) | (apply given_nil; exact rfl))
        repeat (first | refine wk ?_ | (apply wl_alloc; assumption; exact rfl; intro _ _ _ _ _ _) | (apply wl_boxS; assumption; exact rfl; exact rfl; exact rfl; intro _ _ _ _ _ _) | (apply wl_boxV; assumption; exact rfl; exact rfl; exact rfl; intro _ _ _ _ _ _) | (apply wl_storeS; assumption; exact rfl; exact rfl; (repeat (first | exact Upd.here | apply Upd.there)); exact rfl; exact rfl; exact rfl; intro _ _ _) | (apply wl_storeV; assumption; exact rfl; exact rfl; (repeat (first | exact Upd.here | apply Upd.there)); exact rfl; exact rfl; exact rfl; intro _ _ _) | (apply wl_buildL; assumption; exact rfl; exact rfl; exact rfl; exact rfl; exact rfl; exact rfl; exact rfl; exact rfl; exact rfl; intro _ _ _ _ _))
        first | (apply we_gotE; assumption; exact rfl) | (apply we_gotX; assumption; assumption; exact rfl)
        apply obls_cons
        intro _ _ _ _
        repeat (first | (apply given_eqv; exact rfl; exact rfl; exact rfl) | (apply given_nil; exact rfl))
        repeat (first | refine wk ?_ | (apply wl_alloc; assumption; exact rfl; intro _ _ _ _ _ _) | (apply wl_boxS; assumption; exact rfl; exact rfl; exact rfl; intro _ _ _ _ _ _) | (apply wl_boxV; assumption; exact rfl; exact rfl; exact rfl; intro _ _ _ _ _ _) | (apply wl_storeS; assumption; exact rfl; exact rfl; (repeat (first | exact Upd.here | apply Upd.there)); exact rfl; exact rfl; exact rfl; intro _ _ _) | (apply wl_storeV; assumption; exact rfl; exact rfl; (repeat (first | exact Upd.here | apply Upd.there)); exact rfl; exact rfl; exact rfl; intro _ _ _) | (apply wl_buildL; assumption; exact rfl; exact rfl; exact rfl; exact rfl; exact rfl; exact rfl; exact rfl; exact rfl; exact rfl; intro _ _ _ _ _))
        first | (apply we_gotE; assumption; exact rfl) | (apply we_gotX; assumption; assumption; exact rfl)
        apply obls_nil
        intro _ _ _ _
        repeat (first | (apply given_eqv; exact rfl; exact rfl; exact rfl) | (apply given_nil; exact rfl))
        repeat (first | refine wk ?_ | (apply wl_alloc; assumption; exact rfl; intro _ _ _ _ _ _) | (apply wl_boxS; assumption; exact rfl; exact rfl; exact rfl; intro _ _ _ _ _ _) | (apply wl_boxV; assumption; exact rfl; exact rfl; exact rfl; intro _ _ _ _ _ _) | (apply wl_storeS; assumption; exact rfl; exact rfl; (repeat (first | exact Upd.here | apply Upd.there)); exact rfl; exact rfl; exact rfl; intro _ _ _) | (apply wl_storeV; assumption; exact rfl; exact rfl; (repeat (first | exact Upd.here | apply Upd.there)); exact rfl; exact rfl; exact rfl; intro _ _ _) | (apply wl_buildL; assumption; exact rfl; exact rfl; exact rfl; exact rfl; exact rfl; exact rfl; exact rfl; exact rfl; exact rfl; intro _ _ _ _ _))
        rename_i wz hS5 _
        have hr : roundsTo buf x (k + 1) = round (kTab.getD k 0) ((ws buf 64).getD k 0) y := by rw [roundsTo, hy]
        rw [Nat.zero_add, Nat.mul_one] at hS5
        have hS6 : ∃ ok, St ⟨w, (· ≠ g), (· = g)⟩ ok [.var g2 190 [w32v (roundsTo buf x (k + 1)).a, w32v (roundsTo buf x (k + 1)).b, w32v (roundsTo buf x (k + 1)).c, w32v (roundsTo buf x (k + 1)).d, w32v (roundsTo buf x (k + 1)).e, w32v (roundsTo buf x (k + 1)).f, w32v (roundsTo buf x (k + 1)).g, w32v (roundsTo buf x (k + 1)).h], .var g1 206 (wv buf 64), .var g 210 (hsh x buf n)] wz := by
          rw [hr]
          exact ⟨_, hS5⟩
        exact we_round (k + 1) ⟨rfl, rfl, rfl, rfl, trivial⟩ ⟨by omega, hS6⟩ (by omega)
      · obtain rfl : k = 64 := by omega
        repeat (first | refine wk ?_ | (apply wl_alloc; assumption; exact rfl; intro _ _ _ _ _ _) | (apply wl_boxS; assumption; exact rfl; exact rfl; exact rfl; intro _ _ _ _ _ _) | (apply wl_boxV; assumption; exact rfl; exact rfl; exact rfl; intro _ _ _ _ _ _) | (apply wl_storeS; assumption; exact rfl; exact rfl; (repeat (first | exact Upd.here | apply Upd.there)); exact rfl; exact rfl; exact rfl; intro _ _ _) | (apply wl_storeV; assumption; exact rfl; exact rfl; (repeat (first | exact Upd.here | apply Upd.there)); exact rfl; exact rfl; exact rfl; intro _ _ _) | (apply wl_buildL; assumption; exact rfl; exact rfl; exact rfl; exact rfl; exact rfl; exact rfl; exact rfl; exact rfl; exact rfl; intro _ _ _ _ _))
        refine wc_loop (α := Nat) (fun i => [(0, .pointer (some ⟨g, 0, none⟩)), (177, st (y.words.map w32v)), (178, .int .i64 (i : Int))])
          (fun i w' => i ≤ 8 ∧ ∃ ok, St ⟨w, (· ≠ g), (· = g)⟩ ok [.var g2 190 [w32v y.a, w32v y.b, w32v y.c, w32v y.d, w32v y.e, w32v y.f, w32v y.g, w32v y.h], .var g1 206 (wv buf 64), .var g 210 (hsw (addTo x y i) buf n)] w') (fun i => 8 - i) 0 ⟨rfl, rfl, rfl, trivial⟩ ⟨by omega, ok, hS⟩ ?_
        clear hS hk hlt
        intro i w4 ⟨hi, ok, hS⟩
        repeat (first | refine wk ?_ | (apply wl_alloc; assumption; exact rfl; intro _ _ _ _ _ _) | (apply wl_boxS; assumption; exact rfl; exact rfl; exact rfl; intro _ _ _ _ _ _) | (apply wl_boxV; assumption; exact rfl; exact rfl; exact rfl; intro _ _ _ _ _ _) | (apply wl_storeS; assumption; exact rfl; exact rfl; (repeat (first | exact Upd.here | apply Upd.there)); exact rfl; exact rfl; exact rfl; intro _ _ _) | (apply wl_storeV; assumption; exact rfl; exact rfl; (repeat (first | exact Upd.here | apply Upd.there)); exact rfl; exact rfl; exact rfl; intro _ _ _) | (apply wl_buildL; assumption; exact rfl; exact rfl; exact rfl; exact rfl; exact rfl; exact rfl; exact rfl; exact rfl; exact rfl; intro _ _ _ _ _))
        refine wc_cond rfl (fun hlt => ?_) (fun hlt => ?_)
        · repeat (first | refine wk ?_ | (apply wl_alloc; assumption; exact rfl; intro _ _ _ _ _ _) | (apply wl_boxS; assumption; exact rfl; exact rfl; exact rfl; intro _ _ _ _ _ _) | (apply wl_boxV; assumption; exact rfl; exact rfl; exact rfl; intro _ _ _ _ _ _) | (apply wl_storeS; assumption; exact rfl; exact rfl; (repeat (first | exact Upd.here | apply Upd.there)); exact rfl; exact rfl; exact rfl; intro _ _ _) | (apply wl_storeV; assumption; exact rfl; exact rfl; (repeat (first | exact Upd.here | apply Upd.there)); exact rfl; exact rfl; exact rfl; intro _ _ _) | (apply wl_buildL; assumption; exact rfl; exact rfl; exact rfl; exact rfl; exact rfl; exact rfl; exact rfl; exact rfl; exact rfl; intro _ _ _ _ _))
          apply wl_index i; exact rfl; exact rfl; exact rfl; omega; exact Units.map w32v_unit _
          · rw [List.getElem?_map, words_get y i (by omega)]; exact rfl
          exact rfl
          repeat (first | refine wk ?_ | (apply wl_alloc; assumption; exact rfl; intro _ _ _ _ _ _) | (apply wl_boxS; assumption; exact rfl; exact rfl; exact rfl; intro _ _ _ _ _ _) | (apply wl_boxV; assumption; exact rfl; exact rfl; exact rfl; intro _ _ _ _ _ _) | (apply wl_storeS; assumption; exact rfl; exact rfl; (repeat (first | exact Upd.here | apply Upd.there)); exact rfl; exact rfl; exact rfl; intro _ _ _) | (apply wl_storeV; assumption; exact rfl; exact rfl; (repeat (first | exact Upd.here | apply Upd.there)); exact rfl; exact rfl; exact rfl; intro _ _ _) | (apply wl_buildL; assumption; exact rfl; exact rfl; exact rfl; exact rfl; exact rfl; exact rfl; exact rfl; exact rfl; exact rfl; intro _ _ _ _ _))
          apply wc_draw 11 [182, 183, 184, 185, 186, 187, 188, 189, 190, 191, 192] [] [.eqv ?_, .eqv ?_, .eqv ?_, .eqv ?_, .eqv ?_, .eqv ?_, .eqv ?_, .eqv ?_, .eqv ?_, .eqv ?_, .eqv ?_] mixed; assumption; kernel_rfl; exact rfl; exact rfl; exact rfl
          apply obls_cons
          intro _ _ _ _
          repeat (first | (apply given_eqv; exact rfl; exact rfl; exact rfl) | (apply given_nil; exact rfl))
          repeat (first | refine wk ?_ | (apply wl_alloc; assumption; exact rfl; intro _ _ _ _ _ _) | (apply wl_boxS; assumption; exact rfl; exact rfl; exact rfl; intro _ _ _ _ _ _) | (apply wl_boxV; assumption; exact rfl; exact rfl; exact rfl; intro _ _ _ _ _ _) | (apply wl_storeS; assumption; exact rfl; exact rfl; (repeat (first | exact Upd.here | apply Upd.there)); exact rfl; exact rfl; exact rfl; intro _ _ _) | (apply wl_storeV; assumption; exact rfl; exact rfl; (repeat (first | exact Upd.here | apply Upd.there)); exact rfl; exact rfl; exact rfl; intro _ _ _) | (apply wl_buildL; assumption; exact rfl; exact rfl; exact rfl; exact rfl; exact rfl; exact rfl; exact rfl; exact rfl; exact rfl; intro _ _ _ _ _))
          first | (apply we_gotE; assumption; exact rfl) | (apply we_gotX; assumption; assumption; exact rfl)
          apply obls_cons
          intro _ _ _ _
          repeat (first | (apply given_eqv; exact rfl; exact rfl; exact rfl) | (apply given_nil; exact rfl))
          repeat (first | refine wk ?_ | (apply wl_alloc; assumption; exact rfl; intro _ _ _ _ _ _) | (apply wl_boxS; assumption; exact rfl; exact rfl; exact rfl; intro _ _ _ _ _ _) | (apply wl_boxV; assumption; exact rfl; exact rfl; exact rfl; intro _ _ _ _ _ _) | (apply wl_storeS; assumption; exact rfl; exact rfl; (repeat (first | exact Upd.here | apply Upd.there)); exact rfl; exact rfl; exact rfl; intro _ _ _) | (apply wl_storeV; assumption; exact rfl; exact rfl; (repeat (first | exact Upd.here | apply Upd.there)); exact rfl; exact rfl; exact rfl; intro _ _ _) | (apply wl_buildL; assumption; exact rfl; exact rfl; exact rfl; exact rfl; exact rfl; exact rfl; exact rfl; exact rfl; exact rfl; intro _ _ _ _ _))
          first | (apply we_gotE; assumption; exact rfl) | (apply we_gotX; assumption; assumption; exact rfl)
          apply obls_cons
          intro _ _ _ _
          repeat (first | (apply given_eqv; exact rfl; exact rfl; exact rfl) | (apply given_nil; exact rfl))
          repeat (first | refine wk ?_ | (apply wl_alloc; assumption; exact rfl; intro _ _ _ _ _ _) | (apply wl_boxS; assumption; exact rfl; exact rfl; exact rfl; intro _ _ _ _ _ _) | (apply wl_boxV; assumption; exact rfl; exact rfl; exact rfl; intro _ _ _ _ _ _) | (apply wl_storeS; assumption; exact rfl; exact rfl; (repeat (first | exact Upd.here | apply Upd.there)); exact rfl; exact rfl; exact rfl; intro _ _ _) | (apply wl_storeV; assumption; exact rfl; exact rfl; (repeat (first | exact Upd.here | apply Upd.there)); exact rfl; exact rfl; exact rfl; intro _ _ _) | (apply wl_buildL; assumption; exact rfl; exact rfl; exact rfl; exact rfl; exact rfl; exact rfl; exact rfl; exact rfl; exact rfl; intro _ _ _ _ _))
          first | (apply we_gotE; assumption; exact rfl) | (apply we_gotX; assumption; assumption; exact rfl)
          apply obls_cons
          intro _ _ _ _
          repeat (first | (apply given_eqv; exact rfl; exact rfl; exact rfl) | (apply given_nil; exact rfl))
          repeat (first | refine wk ?_ | (apply wl_alloc; assumption; exact rfl; intro _ _ _ _ _ _) | (apply wl_boxS; assumption; exact rfl; exact rfl; exact rfl; intro _ _ _ _ _ _) | (apply wl_boxV; assumption; exact rfl; exact rfl; exact rfl; intro _ _ _ _ _ _) | (apply wl_storeS; assumption; exact rfl; exact rfl; (repeat (first | exact Upd.here | apply Upd.there)); exact rfl; exact rfl; exact rfl; intro _ _ _) | (apply wl_storeV; assumption; exact rfl; exact rfl; (repeat (first | exact Upd.here | apply Upd.there)); exact rfl; exact rfl; exact rfl; intro _ _ _) | (apply wl_buildL; assumption; exact rfl; exact rfl; exact rfl; exact rfl; exact rfl; exact rfl; exact rfl; exact rfl; exact rfl; intro _ _ _ _ _))
          first | (apply we_gotE; assumption; exact rfl) | (apply we_gotX; assumption; assumption; exact rfl)
          apply obls_cons
          intro _ _ _ _
          repeat (first | (apply given_eqv; exact rfl; exact rfl; exact rfl) | (apply given_nil; exact rfl))
          apply wl_idxA i; exact rfl; exact rfl; exact rfl; omega; exact rfl
          repeat (first | refine wk ?_ | (apply wl_alloc; assumption; exact rfl; intro _ _ _ _ _ _) | (apply wl_boxS; assumption; exact rfl; exact rfl; exact rfl; intro _ _ _ _ _ _) | (apply wl_boxV; assumption; exact rfl; exact rfl; exact rfl; intro _ _ _ _ _ _) | (apply wl_storeS; assumption; exact rfl; exact rfl; (repeat (first | exact Upd.here | apply Upd.there)); exact rfl; exact rfl; exact rfl; intro _ _ _) | (apply wl_storeV; assumption; exact rfl; exact rfl; (repeat (first | exact Upd.here | apply Upd.there)); exact rfl; exact rfl; exact rfl; intro _ _ _) | (apply wl_buildL; assumption; exact rfl; exact rfl; exact rfl; exact rfl; exact rfl; exact rfl; exact rfl; exact rfl; exact rfl; intro _ _ _ _ _))
          first | (apply we_gotE; assumption; exact rfl) | (apply we_gotX; assumption; assumption; exact rfl)
          apply obls_cons
          intro _ _ _ _
          repeat (first | (apply given_eqv; exact rfl; exact rfl; exact rfl) | (apply given_nil; exact rfl))
          apply wl_loadU; assumption; exact rfl; (repeat (first | exact Has.here | apply Has.there)); exact hsh_units _ _ _
          · rw [show 0 + 0 + i * 1 = i by omega, hsw, List.append_assoc, List.getElem?_append_left (by rw [List.length_map, addTo_len x y i hi]; omega), List.getElem?_map, addTo_get x y i (by omega)]; exact rfl
          exact rfl
          repeat (first | refine wk ?_ | (apply wl_alloc; assumption; exact rfl; intro _ _ _ _ _ _) | (apply wl_boxS; assumption; exact rfl; exact rfl; exact rfl; intro _ _ _ _ _ _) | (apply wl_boxV; assumption; exact rfl; exact rfl; exact rfl; intro _ _ _ _ _ _) | (apply wl_storeS; assumption; exact rfl; exact rfl; (repeat (first | exact Upd.here | apply Upd.there)); exact rfl; exact rfl; exact rfl; intro _ _ _) | (apply wl_storeV; assumption; exact rfl; exact rfl; (repeat (first | exact Upd.here | apply Upd.there)); exact rfl; exact rfl; exact rfl; intro _ _ _) | (apply wl_buildL; assumption; exact rfl; exact rfl; exact rfl; exact rfl; exact rfl; exact rfl; exact rfl; exact rfl; exact rfl; intro _ _ _ _ _))
          first | (apply we_gotE; assumption; exact rfl) | (apply we_gotX; assumption; assumption; exact rfl)
          apply obls_cons
          intro _ _ _ _
          repeat (first | (apply given_eqv; exact rfl; exact rfl; exact rfl) | (apply given_nil; exact rfl))
          repeat (first | refine wk ?_ | (apply wl_alloc; assumption; exact rfl; intro _ _ _ _ _ _) | (apply wl_boxS; assumption; exact rfl; exact rfl; exact rfl; intro _ _ _ _ _ _) | (apply wl_boxV; assumption; exact rfl; exact rfl; exact rfl; intro _ _ _ _ _ _) | (apply wl_storeS; assumption; exact rfl; exact rfl; (repeat (first | exact Upd.here | apply Upd.there)); exact rfl; exact rfl; exact rfl; intro _ _ _) | (apply wl_storeV; assumption; exact rfl; exact rfl; (repeat (first | exact Upd.here | apply Upd.there)); exact rfl; exact rfl; exact rfl; intro _ _ _) | (apply wl_buildL; assumption; exact rfl; exact rfl; exact rfl; exact rfl; exact rfl; exact rfl; exact rfl; exact rfl; exact rfl; intro _ _ _ _ _))
          first | (apply we_gotE; assumption; exact rfl) | (apply we_gotX; assumption; assumption; exact rfl)
          apply obls_cons
          intro _ _ _ _
          repeat (first | (apply given_eqv; exact rfl; exact rfl; exact rfl) | (apply given_nil; exact rfl))
          repeat (first | refine wk ?_ | (apply wl_alloc; assumption; exact rfl; intro _ _ _ _ _ _) | (apply wl_boxS; assumption; exact rfl; exact rfl; exact rfl; intro _ _ _ _ _ _) | (apply wl_boxV; assumption; exact rfl; exact rfl; exact rfl; intro _ _ _ _ _ _) | (apply wl_storeS; assumption; exact rfl; exact rfl; (repeat (first | exact Upd.here | apply Upd.there)); exact rfl; exact rfl; exact rfl; intro _ _ _) | (apply wl_storeV; assumption; exact rfl; exact rfl; (repeat (first | exact Upd.here | apply Upd.there)); exact rfl; exact rfl; exact rfl; intro _ _ _) | (apply wl_buildL; assumption; exact rfl; exact rfl; exact rfl; exact rfl; exact rfl; exact rfl; exact rfl; exact rfl; exact rfl; intro _ _ _ _ _))
          first | (apply we_gotE; assumption; exact rfl) | (apply we_gotX; assumption; assumption; exact rfl)
          apply obls_cons
          intro _ _ _ _
          repeat (first | (apply given_eqv; exact rfl; exact rfl; exact rfl) | (apply given_nil; exact rfl))
          repeat (first | refine wk ?_ | (apply wl_alloc; assumption; exact rfl; intro _ _ _ _ _ _) | (apply wl_boxS; assumption; exact rfl; exact rfl; exact rfl; intro _ _ _ _ _ _) | (apply wl_boxV; assumption; exact rfl; exact rfl; exact rfl; intro _ _ _ _ _ _) | (apply wl_storeS; assumption; exact rfl; exact rfl; (repeat (first | exact Upd.here | apply Upd.there)); exact rfl; exact rfl; exact rfl; intro _ _ _) | (apply wl_storeV; assumption; exact rfl; exact rfl; (repeat (first | exact Upd.here | apply Upd.there)); exact rfl; exact rfl; exact rfl; intro _ _ _) | (apply wl_buildL; assumption; exact rfl; exact rfl; exact rfl; exact rfl; exact rfl; exact rfl; exact rfl; exact rfl; exact rfl; intro _ _ _ _ _))
          first | (apply we_gotE; assumption; exact rfl) | (apply we_gotX; assumption; assumption; exact rfl)
          apply obls_cons
          intro _ _ _ _
          repeat (first | (apply given_eqv; exact rfl; exact rfl; exact rfl) | (apply given_nil; exact rfl))
          repeat (first | refine wk ?_ | (apply wl_alloc; assumption; exact rfl; intro _ _ _ _ _ _) | (apply wl_boxS; assumption; exact rfl; exact rfl; exact rfl; intro _ _ _ _ _ _) | (apply wl_boxV; assumption; exact rfl; exact rfl; exact rfl; intro _ _ _ _ _ _) | (apply wl_storeS; assumption; exact rfl; exact rfl; (repeat (first | exact Upd.here | apply Upd.there)); exact rfl; exact rfl; exact rfl; intro _ _ _) | (apply wl_storeV; assumption; exact rfl; exact rfl; (repeat (first | exact Upd.here | apply Upd.there)); exact rfl; exact rfl; exact rfl; intro _ _ _) | (apply wl_buildL; assumption; exact rfl; exact rfl; exact rfl; exact rfl; exact rfl; exact rfl; exact rfl; exact rfl; exact rfl; intro _ _ _ _ _))
          first | (apply we_gotE; assumption; exact rfl) | (apply we_gotX; assumption; assumption; exact rfl)
          apply obls_cons
          intro _ _ _ _
          repeat (first | (apply given_eqv; exact rfl; exact rfl; exact rfl) | (apply given_nil; exact rfl))
          apply wl_idxA i; exact rfl; exact rfl; exact rfl; omega; exact rfl
          repeat (first | refine wk ?_ | (apply wl_alloc; assumption; exact rfl; intro _ _ _ _ _ _) | (apply wl_boxS; assumption; exact rfl; exact rfl; exact rfl; intro _ _ _ _ _ _) | (apply wl_boxV; assumption; exact rfl; exact rfl; exact rfl; intro _ _ _ _ _ _) | (apply wl_storeS; assumption; exact rfl; exact rfl; (repeat (first | exact Upd.here | apply Upd.there)); exact rfl; exact rfl; exact rfl; intro _ _ _) | (apply wl_storeV; assumption; exact rfl; exact rfl; (repeat (first | exact Upd.here | apply Upd.there)); exact rfl; exact rfl; exact rfl; intro _ _ _) | (apply wl_buildL; assumption; exact rfl; exact rfl; exact rfl; exact rfl; exact rfl; exact rfl; exact rfl; exact rfl; exact rfl; intro _ _ _ _ _))
          first | (apply we_gotE; assumption; exact rfl) | (apply we_gotX; assumption; assumption; exact rfl)
          apply obls_nil
          intro _ _ _ _
          repeat (first | (apply given_eqv; exact rfl; exact rfl; exact rfl) | (apply given_nil; exact rfl))
          repeat (first | refine wk ?_ | (apply wl_alloc; assumption; exact rfl; intro _ _ _ _ _ _) | (apply wl_boxS; assumption; exact rfl; exact rfl; exact rfl; intro _ _ _ _ _ _) | (apply wl_boxV; assumption; exact rfl; exact rfl; exact rfl; intro _ _ _ _ _ _) | (apply wl_storeS; assumption; exact rfl; exact rfl; (repeat (first | exact Upd.here | apply Upd.there)); exact rfl; exact rfl; exact rfl; intro _ _ _) | (apply wl_storeV; assumption; exact rfl; exact rfl; (repeat (first | exact Upd.here | apply Upd.there)); exact rfl; exact rfl; exact rfl; intro _ _ _) | (apply wl_buildL; assumption; exact rfl; exact rfl; exact rfl; exact rfl; exact rfl; exact rfl; exact rfl; exact rfl; exact rfl; intro _ _ _ _ _))
          apply wl_storeU; assumption; exact rfl; exact rfl; (repeat (first | exact Upd.here | apply Upd.there)); exact hsh_units _ _ _; exact rfl; exact w32v_good _
          · simp [hsw, addTo_len x y i hi]; omega
          intro w5 hS5 _
          repeat (first | refine wk ?_ | (apply wl_alloc; assumption; exact rfl; intro _ _ _ _ _ _) | (apply wl_boxS; assumption; exact rfl; exact rfl; exact rfl; intro _ _ _ _ _ _) | (apply wl_boxV; assumption; exact rfl; exact rfl; exact rfl; intro _ _ _ _ _ _) | (apply wl_storeS; assumption; exact rfl; exact rfl; (repeat (first | exact Upd.here | apply Upd.there)); exact rfl; exact rfl; exact rfl; intro _ _ _) | (apply wl_storeV; assumption; exact rfl; exact rfl; (repeat (first | exact Upd.here | apply Upd.there)); exact rfl; exact rfl; exact rfl; intro _ _ _) | (apply wl_buildL; assumption; exact rfl; exact rfl; exact rfl; exact rfl; exact rfl; exact rfl; exact rfl; exact rfl; exact rfl; intro _ _ _ _ _))
          rw [show 0 + 0 + i * 1 = i by omega, hsw_set _ _ _ _ _ (by rw [addTo_len x y i hi]; omega), addTo_next x y i (by omega)] at hS5
          exact we_round (i + 1) ⟨rfl, rfl, rfl, trivial⟩ ⟨by omega, _, hS5⟩ (by omega)
        · obtain rfl : i = 8 := by omega
          repeat (first | refine wk ?_ | (apply wl_alloc; assumption; exact rfl; intro _ _ _ _ _ _) | (apply wl_boxS; assumption; exact rfl; exact rfl; exact rfl; intro _ _ _ _ _ _) | (apply wl_boxV; assumption; exact rfl; exact rfl; exact rfl; intro _ _ _ _ _ _) | (apply wl_storeS; assumption; exact rfl; exact rfl; (repeat (first | exact Upd.here | apply Upd.there)); exact rfl; exact rfl; exact rfl; intro _ _ _) | (apply wl_storeV; assumption; exact rfl; exact rfl; (repeat (first | exact Upd.here | apply Upd.there)); exact rfl; exact rfl; exact rfl; intro _ _ _) | (apply wl_buildL; assumption; exact rfl; exact rfl; exact rfl; exact rfl; exact rfl; exact rfl; exact rfl; exact rfl; exact rfl; intro _ _ _ _ _))
          apply we_end0; exact rfl
          refine ⟨rfl, ?_⟩
          rw [← hy] at hS
          exact hS.outM (.there (.there .here))
end Go.Proofs.YtkijoddconipoaaGreatDoor

namespace Go.Proofs.YtkijoddconipoaaGreatDoor
open Go Go.RowKit Tw
theorem hsw_copy (l : List W32) (buf : Bs) (n at_ : Nat) (s : Bs) (hl : l.length = 8) (hb : buf.length = 64) (h : at_ + s.length ≤ 64) :
    (hsw l buf n).take (8 + at_) ++ s.map u8v ++ (hsw l buf n).drop (8 + at_ + s.length) = hsw l (into buf at_ s) n := by
  have h1 : (l.map w32v).length = 8 := by simpa using hl
  unfold hsw into
  rw [List.append_assoc (l.map w32v), List.take_append, List.take_of_length_le (by omega), h1, show 8 + at_ - 8 = at_ by omega,
    List.take_append_of_le_length (by simp; omega), ← List.map_take, List.drop_append, List.drop_of_length_le (l := l.map w32v) (by omega), h1, show 8 + at_ + s.length - 8 = at_ + s.length by omega,
    List.drop_append_of_le_length (by simp; omega), ← List.map_drop]
  simp [List.append_assoc]
theorem hsw_setn (l : List W32) (buf : Bs) (n n' : Nat) (hl : l.length = 8) (hb : buf.length = 64) : (hsw l buf n).set 72 (.int .i64 n') = hsw l buf n' := by
  unfold hsw
  rw [List.set_append, if_neg (by simp [hl, hb])]
  simp [hl, hb]
theorem hsh_made (x : H8) (buf : Bs) (n : Nat) (hb : buf.length = 64) : (hsh x buf n)[0 + 73]? = some (.bool true) := by
  have hl : x.words.length = 8 := rfl
  simp [hsh, hsw, hl, hb]
theorem write_spec (w : World) (g : Nat) (M : Bs) (x : H8) (buf s : Bs) (hg : Glo w) (h0 : g ≠ 1) (h2 : g ≠ 2) (hb : w.heap[g]? = some (.cells (fl (hsh x buf M.length)).toArray 210 (0, 0)))
    (hH : HS M x buf) (hlen : M.length + s.length ≤ 4611686018427387904) :
    Ret Tryz.prog 160 [.pointer (some ⟨g, 0, none⟩), sv s] w fun v w' => v = .tuple #[] ∧ ∃ x' buf', HS (M ++ s) x' buf' ∧ Mod g 210 (hsh x' buf' (M ++ s).length) w w' := by
  refine ret_enter Tryz.func160 rfl Tryz.ntmps160 rfl ?_
  have hgl : g < w.heap.size := by
    rcases Nat.lt_or_ge g w.heap.size with h | h
    · exact h
    · simp [Array.getElem?_eq_none h] at hb
  have hS := St.startM (· ≠ g) (fun b hb => by omega) hb (hsh_good x.words buf M.length) (fun h => h rfl)
  repeat (first | refine wk ?_ | (apply wl_alloc; assumption; exact rfl; intro _ _ _ _ _ _) | (apply wl_boxS; assumption; exact rfl; exact rfl; exact rfl; intro _ _ _ _ _ _) | (apply wl_boxV; assumption; exact rfl; exact rfl; exact rfl; intro _ _ _ _ _ _) | (apply wl_storeS; assumption; exact rfl; exact rfl; (repeat (first | exact Upd.here | apply Upd.there)); exact rfl; exact rfl; exact rfl; intro _ _ _) | (apply wl_storeV; assumption; exact rfl; exact rfl; (repeat (first | exact Upd.here | apply Upd.there)); exact rfl; exact rfl; exact rfl; intro _ _ _) | (apply wl_buildL; assumption; exact rfl; exact rfl; exact rfl; exact rfl; exact rfl; exact rfl; exact rfl; exact rfl; exact rfl; intro _ _ _ _ _))
  apply wl_loadU; assumption; exact rfl; (repeat (first | exact Has.here | apply Has.there)); exact hsh_units _ _ _; exact hsh_made _ _ _ hH.len; exact rfl
  repeat (first | refine wk ?_ | (apply wl_alloc; assumption; exact rfl; intro _ _ _ _ _ _) | (apply wl_boxS; assumption; exact rfl; exact rfl; exact rfl; intro _ _ _ _ _ _) | (apply wl_boxV; assumption; exact rfl; exact rfl; exact rfl; intro _ _ _ _ _ _) | (apply wl_storeS; assumption; exact rfl; exact rfl; (repeat (first | exact Upd.here | apply Upd.there)); exact rfl; exact rfl; exact rfl; intro _ _ _) | (apply wl_storeV; assumption; exact rfl; exact rfl; (repeat (first | exact Upd.here | apply Upd.there)); exact rfl; exact rfl; exact rfl; intro _ _ _) | (apply wl_buildL; assumption; exact rfl; exact rfl; exact rfl; exact rfl; exact rfl; exact rfl; exact rfl; exact rfl; exact rfl; intro _ _ _ _ _))
  refine wc_loop (α := Bs × Bs × H8 × Bs) (fun q => [(0, .pointer (some ⟨g, 0, none⟩)), (1, sv q.2.1)])
    (fun q w' => q.1 ++ q.2.1 = M ++ s ∧ HS q.1 q.2.2.1 q.2.2.2 ∧ ∃ ok, St ⟨w, (· ≠ g), (· = g)⟩ ok [.var g 210 (hsh q.2.2.1 q.2.2.2 q.1.length)] w') (fun q => q.2.1.length) (M, s, x, buf) ⟨rfl, rfl, trivial⟩ ⟨rfl, hH, _, hS⟩ ?_
  clear hS hH hb
  rintro ⟨M1, s1, x1, b1⟩ w1 ⟨hMs, hH, ok, hS⟩
  dsimp only at hMs hH hS ⊢
  have hb1 := hH.len
  have hle : M1.length + s1.length ≤ 4611686018427387904 := by
    have := congrArg List.length hMs
    simp only [List.length_append] at this
    omega
  repeat (first | refine wk ?_ | (apply wl_alloc; assumption; exact rfl; intro _ _ _ _ _ _) | (apply wl_boxS; assumption; exact rfl; exact rfl; exact rfl; intro _ _ _ _ _ _) | (apply wl_boxV; assumption; exact rfl; exact rfl; exact rfl; intro _ _ _ _ _ _) | (apply wl_storeS; assumption; exact rfl; exact rfl; (repeat (first | exact Upd.here | apply Upd.there)); exact rfl; exact rfl; exact rfl; intro _ _ _) | (apply wl_storeV; assumption; exact rfl; exact rfl; (repeat (first | exact Upd.here | apply Upd.there)); exact rfl; exact rfl; exact rfl; intro _ _ _) | (apply wl_buildL; assumption; exact rfl; exact rfl; exact rfl; exact rfl; exact rfl; exact rfl; exact rfl; exact rfl; exact rfl; intro _ _ _ _ _))
  refine wc_cond rfl (fun hne => ?_) (fun hne => ?_)
  · repeat (first | refine wk ?_ | (apply wl_alloc; assumption; exact rfl; intro _ _ _ _ _ _) | (apply wl_boxS; assumption; exact rfl; exact rfl; exact rfl; intro _ _ _ _ _ _) | (apply wl_boxV; assumption; exact rfl; exact rfl; exact rfl; intro _ _ _ _ _ _) | (apply wl_storeS; assumption; exact rfl; exact rfl; (repeat (first | exact Upd.here | apply Upd.there)); exact rfl; exact rfl; exact rfl; intro _ _ _) | (apply wl_storeV; assumption; exact rfl; exact rfl; (repeat (first | exact Upd.here | apply Upd.there)); exact rfl; exact rfl; exact rfl; intro _ _ _) | (apply wl_buildL; assumption; exact rfl; exact rfl; exact rfl; exact rfl; exact rfl; exact rfl; exact rfl; exact rfl; exact rfl; intro _ _ _ _ _))
    apply wl_loadU; assumption; exact rfl; (repeat (first | exact Has.here | apply Has.there)); exact hsh_units _ _ _; rw [Nat.zero_add]; exact hsh_n _ _ _ hb1; exact rfl
    apply wl_div; exact rfl; exact rfl; exact rfl; omega; omega; (intro c _ _; exact wrap64_id (by omega) (by omega)); exact rfl
    repeat (first | refine wk ?_ | (apply wl_alloc; assumption; exact rfl; intro _ _ _ _ _ _) | (apply wl_boxS; assumption; exact rfl; exact rfl; exact rfl; intro _ _ _ _ _ _) | (apply wl_boxV; assumption; exact rfl; exact rfl; exact rfl; intro _ _ _ _ _ _) | (apply wl_storeS; assumption; exact rfl; exact rfl; (repeat (first | exact Upd.here | apply Upd.there)); exact rfl; exact rfl; exact rfl; intro _ _ _) | (apply wl_storeV; assumption; exact rfl; exact rfl; (repeat (first | exact Upd.here | apply Upd.there)); exact rfl; exact rfl; exact rfl; intro _ _ _) | (apply wl_buildL; assumption; exact rfl; exact rfl; exact rfl; exact rfl; exact rfl; exact rfl; exact rfl; exact rfl; exact rfl; intro _ _ _ _ _))
    apply wl_sliceAA (M1.length % 64) 64; exact rfl; exact rfl; exact rfl; omega; omega; omega; omega; omega; exact rfl
    repeat (first | refine wk ?_ | (apply wl_alloc; assumption; exact rfl; intro _ _ _ _ _ _) | (apply wl_boxS; assumption; exact rfl; exact rfl; exact rfl; intro _ _ _ _ _ _) | (apply wl_boxV; assumption; exact rfl; exact rfl; exact rfl; intro _ _ _ _ _ _) | (apply wl_storeS; assumption; exact rfl; exact rfl; (repeat (first | exact Upd.here | apply Upd.there)); exact rfl; exact rfl; exact rfl; intro _ _ _) | (apply wl_storeV; assumption; exact rfl; exact rfl; (repeat (first | exact Upd.here | apply Upd.there)); exact rfl; exact rfl; exact rfl; intro _ _ _) | (apply wl_buildL; assumption; exact rfl; exact rfl; exact rfl; exact rfl; exact rfl; exact rfl; exact rfl; exact rfl; exact rfl; intro _ _ _ _ _))
    apply wl_copyS; assumption; exact rfl; exact rfl; exact .here; exact hsh_units _ _ _
    · simp [hsw, hb1]; rw [show x1.words.length = 8 from rfl]; omega
    · exact rfl
    intro w2 hS2 _
    rw [show 0 + 8 + M1.length % 64 * 1 = 8 + M1.length % 64 by omega, hsw_copy _ _ _ _ _ rfl hb1 (by rw [List.length_take]; omega)] at hS2
    generalize hp : s1.take (64 - M1.length % 64) = p at hS2
    have hpl : p.length ≤ s1.length ∧ p.length ≤ 64 - M1.length % 64 := by rw [← hp, List.length_take]; omega
    have hps : p ++ s1.drop p.length = s1 := by
      rw [← hp, List.length_take]
      rcases Nat.le_total (64 - M1.length % 64) s1.length with h | h
      · rw [Nat.min_eq_left h, List.take_append_drop]
      · rw [Nat.min_eq_right h, List.take_of_length_le h, List.drop_length, List.append_nil]
    repeat (first | refine wk ?_ | (apply wl_alloc; assumption; exact rfl; intro _ _ _ _ _ _) | (apply wl_boxS; assumption; exact rfl; exact rfl; exact rfl; intro _ _ _ _ _ _) | (apply wl_boxV; assumption; exact rfl; exact rfl; exact rfl; intro _ _ _ _ _ _) | (apply wl_storeS; assumption; exact rfl; exact rfl; (repeat (first | exact Upd.here | apply Upd.there)); exact rfl; exact rfl; exact rfl; intro _ _ _) | (apply wl_storeV; assumption; exact rfl; exact rfl; (repeat (first | exact Upd.here | apply Upd.there)); exact rfl; exact rfl; exact rfl; intro _ _ _) | (apply wl_buildL; assumption; exact rfl; exact rfl; exact rfl; exact rfl; exact rfl; exact rfl; exact rfl; exact rfl; exact rfl; intro _ _ _ _ _))
    apply wl_sliceS p.length s1.length; exact rfl; exact rfl; exact rfl; exact rfl; exact rfl; exact hpl.1; omega; exact rfl
    rw [List.take_length]
    have hbl : (into b1 (M1.length % 64) p).length = 64 := by rw [into_len (by omega)]; exact hb1
    repeat (first | refine wk ?_ | (apply wl_alloc; assumption; exact rfl; intro _ _ _ _ _ _) | (apply wl_boxS; assumption; exact rfl; exact rfl; exact rfl; intro _ _ _ _ _ _) | (apply wl_boxV; assumption; exact rfl; exact rfl; exact rfl; intro _ _ _ _ _ _) | (apply wl_storeS; assumption; exact rfl; exact rfl; (repeat (first | exact Upd.here | apply Upd.there)); exact rfl; exact rfl; exact rfl; intro _ _ _) | (apply wl_storeV; assumption; exact rfl; exact rfl; (repeat (first | exact Upd.here | apply Upd.there)); exact rfl; exact rfl; exact rfl; intro _ _ _) | (apply wl_buildL; assumption; exact rfl; exact rfl; exact rfl; exact rfl; exact rfl; exact rfl; exact rfl; exact rfl; exact rfl; intro _ _ _ _ _))
    apply wl_loadU; assumption; exact rfl; (repeat (first | exact Has.here | apply Has.there)); exact hsh_units _ _ _; rw [Nat.zero_add]; exact hsh_n _ _ _ hbl; exact rfl
    repeat (first | refine wk ?_ | (apply wl_alloc; assumption; exact rfl; intro _ _ _ _ _ _) | (apply wl_boxS; assumption; exact rfl; exact rfl; exact rfl; intro _ _ _ _ _ _) | (apply wl_boxV; assumption; exact rfl; exact rfl; exact rfl; intro _ _ _ _ _ _) | (apply wl_storeS; assumption; exact rfl; exact rfl; (repeat (first | exact Upd.here | apply Upd.there)); exact rfl; exact rfl; exact rfl; intro _ _ _) | (apply wl_storeV; assumption; exact rfl; exact rfl; (repeat (first | exact Upd.here | apply Upd.there)); exact rfl; exact rfl; exact rfl; intro _ _ _) | (apply wl_buildL; assumption; exact rfl; exact rfl; exact rfl; exact rfl; exact rfl; exact rfl; exact rfl; exact rfl; exact rfl; intro _ _ _ _ _))
    apply wl_storeU; assumption; exact rfl; exact rfl; (repeat (first | exact Upd.here | apply Upd.there)); exact hsh_units _ _ _; exact rfl; exact good_all rfl
    · simp [hsw, hbl]; rw [show x1.words.length = 8 from rfl]; omega
    intro w3 hS3 _
    rw [Nat.zero_add, ← Int.natCast_add, ← List.length_append, hsw_setn _ _ _ _ rfl hbl] at hS3
    have hp0 : 0 < p.length := by
      rw [← hp, List.length_take]
      have : 0 < s1.length := List.length_pos_iff.2 hne
      omega
    have hMp : M1 ++ p ++ s1.drop p.length = M ++ s := by rw [List.append_assoc, hps, hMs]
    have hdr : (s1.drop p.length).length < s1.length := by rw [List.length_drop]; omega
    repeat (first | refine wk ?_ | (apply wl_alloc; assumption; exact rfl; intro _ _ _ _ _ _) | (apply wl_boxS; assumption; exact rfl; exact rfl; exact rfl; intro _ _ _ _ _ _) | (apply wl_boxV; assumption; exact rfl; exact rfl; exact rfl; intro _ _ _ _ _ _) | (apply wl_storeS; assumption; exact rfl; exact rfl; (repeat (first | exact Upd.here | apply Upd.there)); exact rfl; exact rfl; exact rfl; intro _ _ _) | (apply wl_storeV; assumption; exact rfl; exact rfl; (repeat (first | exact Upd.here | apply Upd.there)); exact rfl; exact rfl; exact rfl; intro _ _ _) | (apply wl_buildL; assumption; exact rfl; exact rfl; exact rfl; exact rfl; exact rfl; exact rfl; exact rfl; exact rfl; exact rfl; intro _ _ _ _ _))
    refine wc_cond rfl (fun hf => ?_) (fun hf => ?_)
    · repeat (first | refine wk ?_ | (apply wl_alloc; assumption; exact rfl; intro _ _ _ _ _ _) | (apply wl_boxS; assumption; exact rfl; exact rfl; exact rfl; intro _ _ _ _ _ _) | (apply wl_boxV; assumption; exact rfl; exact rfl; exact rfl; intro _ _ _ _ _ _) | (apply wl_storeS; assumption; exact rfl; exact rfl; (repeat (first | exact Upd.here | apply Upd.there)); exact rfl; exact rfl; exact rfl; intro _ _ _) | (apply wl_storeV; assumption; exact rfl; exact rfl; (repeat (first | exact Upd.here | apply Upd.there)); exact rfl; exact rfl; exact rfl; intro _ _ _) | (apply wl_buildL; assumption; exact rfl; exact rfl; exact rfl; exact rfl; exact rfl; exact rfl; exact rfl; exact rfl; exact rfl; intro _ _ _ _ _))
      apply wl_callM; exact hS3; exact rfl; exact .here
      · exact block_spec _ g x1 _ _ (St.glo hS3 hg (fun h => h0 h.symm) (fun h => h2 h.symm)) h0 h2 (hS3.varAt .here) hbl
      · exact rfl
      intro v w4 _ hS4 _
      repeat (first | refine wk ?_ | (apply wl_alloc; assumption; exact rfl; intro _ _ _ _ _ _) | (apply wl_boxS; assumption; exact rfl; exact rfl; exact rfl; intro _ _ _ _ _ _) | (apply wl_boxV; assumption; exact rfl; exact rfl; exact rfl; intro _ _ _ _ _ _) | (apply wl_storeS; assumption; exact rfl; exact rfl; (repeat (first | exact Upd.here | apply Upd.there)); exact rfl; exact rfl; exact rfl; intro _ _ _) | (apply wl_storeV; assumption; exact rfl; exact rfl; (repeat (first | exact Upd.here | apply Upd.there)); exact rfl; exact rfl; exact rfl; intro _ _ _) | (apply wl_buildL; assumption; exact rfl; exact rfl; exact rfl; exact rfl; exact rfl; exact rfl; exact rfl; exact rfl; exact rfl; intro _ _ _ _ _))
      exact we_round (M1 ++ p, s1.drop p.length, _, into b1 (M1.length % 64) p) ⟨rfl, rfl, trivial⟩ ⟨hMp, hH.full (by omega), _, hS4⟩ hdr
    · repeat (first | refine wk ?_ | (apply wl_alloc; assumption; exact rfl; intro _ _ _ _ _ _) | (apply wl_boxS; assumption; exact rfl; exact rfl; exact rfl; intro _ _ _ _ _ _) | (apply wl_boxV; assumption; exact rfl; exact rfl; exact rfl; intro _ _ _ _ _ _) | (apply wl_storeS; assumption; exact rfl; exact rfl; (repeat (first | exact Upd.here | apply Upd.there)); exact rfl; exact rfl; exact rfl; intro _ _ _) | (apply wl_storeV; assumption; exact rfl; exact rfl; (repeat (first | exact Upd.here | apply Upd.there)); exact rfl; exact rfl; exact rfl; intro _ _ _) | (apply wl_buildL; assumption; exact rfl; exact rfl; exact rfl; exact rfl; exact rfl; exact rfl; exact rfl; exact rfl; exact rfl; intro _ _ _ _ _))
      exact we_round (M1 ++ p, s1.drop p.length, x1, into b1 (M1.length % 64) p) ⟨rfl, rfl, trivial⟩ ⟨hMp, hH.part (by omega), _, hS3⟩ hdr
  · obtain rfl : s1 = [] := by simpa using hne
    rw [List.append_nil] at hMs
    subst hMs
    repeat (first | refine wk ?_ | (apply wl_alloc; assumption; exact rfl; intro _ _ _ _ _ _) | (apply wl_boxS; assumption; exact rfl; exact rfl; exact rfl; intro _ _ _ _ _ _) | (apply wl_boxV; assumption; exact rfl; exact rfl; exact rfl; intro _ _ _ _ _ _) | (apply wl_storeS; assumption; exact rfl; exact rfl; (repeat (first | exact Upd.here | apply Upd.there)); exact rfl; exact rfl; exact rfl; intro _ _ _) | (apply wl_storeV; assumption; exact rfl; exact rfl; (repeat (first | exact Upd.here | apply Upd.there)); exact rfl; exact rfl; exact rfl; intro _ _ _) | (apply wl_buildL; assumption; exact rfl; exact rfl; exact rfl; exact rfl; exact rfl; exact rfl; exact rfl; exact rfl; exact rfl; intro _ _ _ _ _))
    apply we_end0; exact rfl
    exact ⟨rfl, x1, b1, hH, hS.outM .here⟩
end Go.Proofs.YtkijoddconipoaaGreatDoor

namespace Go.Proofs.YtkijoddconipoaaGreatDoor
open Go Go.RowKit Tw
theorem hsw_len (l : List W32) (buf : Bs) (n : Nat) (hl : l.length = 8) (hb : buf.length = 64) : (hsw l buf n).length = 74 := by simp [hsw, hl, hb]
/-- eight bytes of a number, the last i of them -/
def lenB (N i : Nat) : Bs := zeros (8 - i) ++ (be64 N).drop (8 - i)
theorem lenB_len (N i : Nat) (_h : i ≤ 8) : (lenB N i).length = 8 := by
  have : (be64 N).length = 8 := rfl
  simp [lenB, zeros, this]
theorem lenB_next (N i : Nat) (h : i < 8) : (lenB N i).set (7 - i) (UInt8.ofNat (N / 2 ^ (8 * i))) = lenB N (i + 1) := by
  have h8 : (be64 N).length = 8 := rfl
  have hg := be64_get N i h
  have e1 : (be64 N).drop (8 - (i + 1)) = UInt8.ofNat (N / 2 ^ (8 * i)) :: (be64 N).drop (8 - i) := by
    rw [show 8 - (i + 1) = 7 - i by omega, List.drop_eq_getElem_cons (by omega), show 7 - i + 1 = 8 - i by omega]
    congr 1
    rw [List.getElem?_eq_getElem (by omega)] at hg
    exact Option.some.inj hg
  unfold lenB
  rw [e1, zeros, zeros, show 8 - i = (8 - (i + 1)) + 1 by omega, List.replicate_succ', List.append_assoc, List.set_append, if_neg (by simp)]
  simp only [List.length_replicate]
  rw [show 7 - i - (8 - (i + 1)) = 0 by omega]
  rfl
theorem fill_next (B : Bs) (n i : Nat) (b : UInt8) (hB : B.length = n) (hi : i < n) (h : B[i]? = some b) : (B.take i ++ zeros (n - i)).set i b = B.take (i + 1) ++ zeros (n - (i + 1)) := by
  rw [List.set_append, if_neg (by simp; omega), List.take_add_one, h, show n - i = (n - (i + 1)) + 1 by omega, zeros, List.replicate_succ]
  rw [show i - (B.take i).length = 0 by simp; omega]
  simp [zeros]
theorem sum_spec (w : World) (g : Nat) (M : Bs) (x : H8) (buf : Bs) (hg : Glo w) (hb : w.heap[g]? = some (.cells (fl (hsh x buf M.length)).toArray 210 (0, 0)))
    (hH : HS M x buf) (hlen : M.length ≤ 1152921504606846976) :
    Ret Tryz.prog 162 [.pointer (some ⟨g, 0, none⟩)] w fun v w' => v = hv (shaH M) ∧ Ext w w' := by
  refine ret_enter Tryz.func162 rfl Tryz.ntmps162 rfl ?_
  have hS := St.start w (fun _ => True) (fun _ _ => trivial)
  have hr : Rg w g 0 (hsh x buf M.length) := by
    have := Rg.of_block hb
    rwa [(hsh_units _ _ _).fl] at this
  repeat (first | refine wk ?_ | (apply wl_alloc; assumption; exact rfl; intro _ _ _ _ _ _) | (apply wl_boxS; assumption; exact rfl; exact rfl; exact rfl; intro _ _ _ _ _ _) | (apply wl_boxV; assumption; exact rfl; exact rfl; exact rfl; intro _ _ _ _ _ _) | (apply wl_storeS; assumption; exact rfl; exact rfl; (repeat (first | exact Upd.here | apply Upd.there)); exact rfl; exact rfl; exact rfl; intro _ _ _) | (apply wl_storeV; assumption; exact rfl; exact rfl; (repeat (first | exact Upd.here | apply Upd.there)); exact rfl; exact rfl; exact rfl; intro _ _ _) | (apply wl_buildL; assumption; exact rfl; exact rfl; exact rfl; exact rfl; exact rfl; exact rfl; exact rfl; exact rfl; exact rfl; intro _ _ _ _ _))
  apply wl_call; exact rfl; exact new_spec _ (St.glo (by assumption) hg (fun h => h) (fun h => h)); exact rfl
  rintro _ w2 ⟨g2, rfl, hN⟩
  rename_i g1 ok1 w1 hS1 _ _
  obtain ⟨hS2, _⟩ := hS1.newOf hN
  clear hS hS1
  repeat (first | refine wk ?_ | (apply wl_alloc; assumption; exact rfl; intro _ _ _ _ _ _) | (apply wl_boxS; assumption; exact rfl; exact rfl; exact rfl; intro _ _ _ _ _ _) | (apply wl_boxV; assumption; exact rfl; exact rfl; exact rfl; intro _ _ _ _ _ _) | (apply wl_storeS; assumption; exact rfl; exact rfl; (repeat (first | exact Upd.here | apply Upd.there)); exact rfl; exact rfl; exact rfl; intro _ _ _) | (apply wl_storeV; assumption; exact rfl; exact rfl; (repeat (first | exact Upd.here | apply Upd.there)); exact rfl; exact rfl; exact rfl; intro _ _ _) | (apply wl_buildL; assumption; exact rfl; exact rfl; exact rfl; exact rfl; exact rfl; exact rfl; exact rfl; exact rfl; exact rfl; intro _ _ _ _ _))
  apply wl_loadG; exact rfl; exact hS2.keepRg hr (fun h => h); exact hsh_units _ _ _; exact hsh_made _ _ _ hH.len; exact rfl
  repeat (first | refine wk ?_ | (apply wl_alloc; assumption; exact rfl; intro _ _ _ _ _ _) | (apply wl_boxS; assumption; exact rfl; exact rfl; exact rfl; intro _ _ _ _ _ _) | (apply wl_boxV; assumption; exact rfl; exact rfl; exact rfl; intro _ _ _ _ _ _) | (apply wl_storeS; assumption; exact rfl; exact rfl; (repeat (first | exact Upd.here | apply Upd.there)); exact rfl; exact rfl; exact rfl; intro _ _ _) | (apply wl_storeV; assumption; exact rfl; exact rfl; (repeat (first | exact Upd.here | apply Upd.there)); exact rfl; exact rfl; exact rfl; intro _ _ _) | (apply wl_buildL; assumption; exact rfl; exact rfl; exact rfl; exact rfl; exact rfl; exact rfl; exact rfl; exact rfl; exact rfl; intro _ _ _ _ _))
  apply wl_loadD (v := st (hsh x buf M.length)); exact rfl
  · simp only [st, Value.cells, (hsh_units _ _ _).fl]; exact hS2.keepRg hr (fun h => h)
  · show (fl (hsh x buf M.length)).toArray.size = 74
    rw [(hsh_units _ _ _).fl]
    exact hsw_len _ _ _ rfl hH.len
  · exact rfl
  · exact rfl
  repeat (first | refine wk ?_ | (apply wl_alloc; assumption; exact rfl; intro _ _ _ _ _ _) | (apply wl_boxS; assumption; exact rfl; exact rfl; exact rfl; intro _ _ _ _ _ _) | (apply wl_boxV; assumption; exact rfl; exact rfl; exact rfl; intro _ _ _ _ _ _) | (apply wl_storeS; assumption; exact rfl; exact rfl; (repeat (first | exact Upd.here | apply Upd.there)); exact rfl; exact rfl; exact rfl; intro _ _ _) | (apply wl_storeV; assumption; exact rfl; exact rfl; (repeat (first | exact Upd.here | apply Upd.there)); exact rfl; exact rfl; exact rfl; intro _ _ _) | (apply wl_buildL; assumption; exact rfl; exact rfl; exact rfl; exact rfl; exact rfl; exact rfl; exact rfl; exact rfl; exact rfl; intro _ _ _ _ _))
  apply wl_storeUA; exact hS2; exact rfl; exact rfl; exact .here; exact hsh_units _ _ _; exact hsh_units _ _ _; exact hsh_good _ _ _
  · exact hsw_len _ _ _ rfl hH.len
  · rw [hsw_len _ _ _ rfl rfl]; decide
  intro w3 hS3 _
  rw [List.take_zero, List.nil_append, List.drop_of_length_le (by rw [hsw_len _ _ _ rfl rfl]; decide), List.append_nil] at hS3
  clear hS2
  repeat (first | refine wk ?_ | (apply wl_alloc; assumption; exact rfl; intro _ _ _ _ _ _) | (apply wl_boxS; assumption; exact rfl; exact rfl; exact rfl; intro _ _ _ _ _ _) | (apply wl_boxV; assumption; exact rfl; exact rfl; exact rfl; intro _ _ _ _ _ _) | (apply wl_storeS; assumption; exact rfl; exact rfl; (repeat (first | exact Upd.here | apply Upd.there)); exact rfl; exact rfl; exact rfl; intro _ _ _) | (apply wl_storeV; assumption; exact rfl; exact rfl; (repeat (first | exact Upd.here | apply Upd.there)); exact rfl; exact rfl; exact rfl; intro _ _ _) | (apply wl_buildL; assumption; exact rfl; exact rfl; exact rfl; exact rfl; exact rfl; exact rfl; exact rfl; exact rfl; exact rfl; intro _ _ _ _ _))
  rename_i g3 ok3 w4 hS4 _ _
  refine wc_loop (α := Nat) (fun i => [(0, .pointer (some ⟨g, 0, none⟩)), (2, .pointer (some ⟨g1, 0, none⟩)), (3, .pointer (some ⟨g2, 0, none⟩)), (4, .pointer (some ⟨g3, 0, none⟩)), (23, .int .i64 (i : Int))])
    (fun i w' => i ≤ 8 ∧ ∃ ok, St ⟨w, fun _ => True, fun _ => False⟩ ok [.var g3 212 ((lenB (8 * M.length) i).map u8v), .var g2 210 (hsh x buf M.length), .var g1 33 [hv zeroH]] w') (fun i => 8 - i) 0 ⟨rfl, rfl, rfl, rfl, rfl, trivial⟩ ⟨by omega, ok3, hS4⟩ ?_
  clear hS3 hS4
  intro i w5 ⟨hi, ok, hS⟩
  repeat (first | refine wk ?_ | (apply wl_alloc; assumption; exact rfl; intro _ _ _ _ _ _) | (apply wl_boxS; assumption; exact rfl; exact rfl; exact rfl; intro _ _ _ _ _ _) | (apply wl_boxV; assumption; exact rfl; exact rfl; exact rfl; intro _ _ _ _ _ _) | (apply wl_storeS; assumption; exact rfl; exact rfl; (repeat (first | exact Upd.here | apply Upd.there)); exact rfl; exact rfl; exact rfl; intro _ _ _) | (apply wl_storeV; assumption; exact rfl; exact rfl; (repeat (first | exact Upd.here | apply Upd.there)); exact rfl; exact rfl; exact rfl; intro _ _ _) | (apply wl_buildL; assumption; exact rfl; exact rfl; exact rfl; exact rfl; exact rfl; exact rfl; exact rfl; exact rfl; exact rfl; intro _ _ _ _ _))
  refine wc_cond rfl (fun hlt => ?_) (fun hlt => ?_)
  · repeat (first | refine wk ?_ | (apply wl_alloc; assumption; exact rfl; intro _ _ _ _ _ _) | (apply wl_boxS; assumption; exact rfl; exact rfl; exact rfl; intro _ _ _ _ _ _) | (apply wl_boxV; assumption; exact rfl; exact rfl; exact rfl; intro _ _ _ _ _ _) | (apply wl_storeS; assumption; exact rfl; exact rfl; (repeat (first | exact Upd.here | apply Upd.there)); exact rfl; exact rfl; exact rfl; intro _ _ _) | (apply wl_storeV; assumption; exact rfl; exact rfl; (repeat (first | exact Upd.here | apply Upd.there)); exact rfl; exact rfl; exact rfl; intro _ _ _) | (apply wl_buildL; assumption; exact rfl; exact rfl; exact rfl; exact rfl; exact rfl; exact rfl; exact rfl; exact rfl; exact rfl; intro _ _ _ _ _))
    apply wl_loadU; assumption; exact rfl; (repeat (first | exact Has.here | apply Has.there)); exact hsh_units _ _ _; rw [Nat.zero_add]; exact hsh_n _ _ _ hH.len; exact rfl
    repeat (first | refine wk ?_ | (apply wl_alloc; assumption; exact rfl; intro _ _ _ _ _ _) | (apply wl_boxS; assumption; exact rfl; exact rfl; exact rfl; intro _ _ _ _ _ _) | (apply wl_boxV; assumption; exact rfl; exact rfl; exact rfl; intro _ _ _ _ _ _) | (apply wl_storeS; assumption; exact rfl; exact rfl; (repeat (first | exact Upd.here | apply Upd.there)); exact rfl; exact rfl; exact rfl; intro _ _ _) | (apply wl_storeV; assumption; exact rfl; exact rfl; (repeat (first | exact Upd.here | apply Upd.there)); exact rfl; exact rfl; exact rfl; intro _ _ _) | (apply wl_buildL; assumption; exact rfl; exact rfl; exact rfl; exact rfl; exact rfl; exact rfl; exact rfl; exact rfl; exact rfl; intro _ _ _ _ _))
    apply wl_as 33 rfl (show Value.int .u64 _ = .int .u64 ((8 * M.length : Nat) : Int) by
      rw [IntKind.wrap_u64, IntKind.wrap_u64]; congr 1; omega)
    apply wl_shr (8 * i) (2 ^ (8 * i)); exact rfl; exact rfl; omega
    · rw [show min (8 * i) IntKind.u64.bits = 8 * i by show min (8 * i) 64 = 8 * i; omega]
    · exact rfl
    repeat (first | refine wk ?_ | (apply wl_alloc; assumption; exact rfl; intro _ _ _ _ _ _) | (apply wl_boxS; assumption; exact rfl; exact rfl; exact rfl; intro _ _ _ _ _ _) | (apply wl_boxV; assumption; exact rfl; exact rfl; exact rfl; intro _ _ _ _ _ _) | (apply wl_storeS; assumption; exact rfl; exact rfl; (repeat (first | exact Upd.here | apply Upd.there)); exact rfl; exact rfl; exact rfl; intro _ _ _) | (apply wl_storeV; assumption; exact rfl; exact rfl; (repeat (first | exact Upd.here | apply Upd.there)); exact rfl; exact rfl; exact rfl; intro _ _ _) | (apply wl_buildL; assumption; exact rfl; exact rfl; exact rfl; exact rfl; exact rfl; exact rfl; exact rfl; exact rfl; exact rfl; intro _ _ _ _ _))
    apply wl_idxA (7 - i); exact rfl; exact rfl; omega; omega; exact rfl
    apply wl_as 37 rfl (show _ = u8v (UInt8.ofNat (8 * M.length / 2 ^ (8 * i))) by
      have h := u8w (8 * M.length / 2 ^ (8 * i))
      simp only [Int.natCast_ediv, Int.natCast_pow] at h
      exact h)
    apply wl_storeU; assumption; exact rfl; exact rfl; (repeat (first | exact Upd.here | apply Upd.there)); exact Units.map u8v_unit _; exact rfl; exact u8v_good _
    · rw [List.length_map, lenB_len _ _ hi]; omega
    intro w6 hS6 _
    rw [← List.map_set, show 0 + (7 - i) * 1 = 7 - i by omega, lenB_next _ _ (by omega)] at hS6
    repeat (first | refine wk ?_ | (apply wl_alloc; assumption; exact rfl; intro _ _ _ _ _ _) | (apply wl_boxS; assumption; exact rfl; exact rfl; exact rfl; intro _ _ _ _ _ _) | (apply wl_boxV; assumption; exact rfl; exact rfl; exact rfl; intro _ _ _ _ _ _) | (apply wl_storeS; assumption; exact rfl; exact rfl; (repeat (first | exact Upd.here | apply Upd.there)); exact rfl; exact rfl; exact rfl; intro _ _ _) | (apply wl_storeV; assumption; exact rfl; exact rfl; (repeat (first | exact Upd.here | apply Upd.there)); exact rfl; exact rfl; exact rfl; intro _ _ _) | (apply wl_buildL; assumption; exact rfl; exact rfl; exact rfl; exact rfl; exact rfl; exact rfl; exact rfl; exact rfl; exact rfl; intro _ _ _ _ _))
    exact we_round (i + 1) ⟨rfl, rfl, rfl, rfl, rfl, trivial⟩ ⟨by omega, _, hS6⟩ (by omega)
  · obtain rfl : i = 8 := by omega
    rw [show lenB (8 * M.length) 8 = be64 (8 * M.length) from rfl] at hS
    repeat (first | refine wk ?_ | (apply wl_alloc; assumption; exact rfl; intro _ _ _ _ _ _) | (apply wl_boxS; assumption; exact rfl; exact rfl; exact rfl; intro _ _ _ _ _ _) | (apply wl_boxV; assumption; exact rfl; exact rfl; exact rfl; intro _ _ _ _ _ _) | (apply wl_storeS; assumption; exact rfl; exact rfl; (repeat (first | exact Upd.here | apply Upd.there)); exact rfl; exact rfl; exact rfl; intro _ _ _) | (apply wl_storeV; assumption; exact rfl; exact rfl; (repeat (first | exact Upd.here | apply Upd.there)); exact rfl; exact rfl; exact rfl; intro _ _ _) | (apply wl_buildL; assumption; exact rfl; exact rfl; exact rfl; exact rfl; exact rfl; exact rfl; exact rfl; exact rfl; exact rfl; intro _ _ _ _ _))
    apply wl_loadU; assumption; exact rfl; (repeat (first | exact Has.here | apply Has.there)); exact hsh_units _ _ _; rw [Nat.zero_add]; exact hsh_n _ _ _ hH.len; exact rfl
    apply wl_div; exact rfl; exact rfl; exact rfl; omega; omega; (intro c _ _; exact wrap64_id (by omega) (by omega)); exact rfl
    repeat (first | refine wk ?_ | (apply wl_alloc; assumption; exact rfl; intro _ _ _ _ _ _) | (apply wl_boxS; assumption; exact rfl; exact rfl; exact rfl; intro _ _ _ _ _ _) | (apply wl_boxV; assumption; exact rfl; exact rfl; exact rfl; intro _ _ _ _ _ _) | (apply wl_storeS; assumption; exact rfl; exact rfl; (repeat (first | exact Upd.here | apply Upd.there)); exact rfl; exact rfl; exact rfl; intro _ _ _) | (apply wl_storeV; assumption; exact rfl; exact rfl; (repeat (first | exact Upd.here | apply Upd.there)); exact rfl; exact rfl; exact rfl; intro _ _ _) | (apply wl_buildL; assumption; exact rfl; exact rfl; exact rfl; exact rfl; exact rfl; exact rfl; exact rfl; exact rfl; exact rfl; intro _ _ _ _ _))
    apply wl_div; exact rfl; exact rfl; exact rfl; omega; omega; (intro c _ _; exact wrap64_id (by omega) (by omega)); exact rfl
    repeat (first | refine wk ?_ | (apply wl_alloc; assumption; exact rfl; intro _ _ _ _ _ _) | (apply wl_boxS; assumption; exact rfl; exact rfl; exact rfl; intro _ _ _ _ _ _) | (apply wl_boxV; assumption; exact rfl; exact rfl; exact rfl; intro _ _ _ _ _ _) | (apply wl_storeS; assumption; exact rfl; exact rfl; (repeat (first | exact Upd.here | apply Upd.there)); exact rfl; exact rfl; exact rfl; intro _ _ _) | (apply wl_storeV; assumption; exact rfl; exact rfl; (repeat (first | exact Upd.here | apply Upd.there)); exact rfl; exact rfl; exact rfl; intro _ _ _) | (apply wl_buildL; assumption; exact rfl; exact rfl; exact rfl; exact rfl; exact rfl; exact rfl; exact rfl; exact rfl; exact rfl; intro _ _ _ _ _))
    refine wc_as 6 rfl (show _ = Value.int .i64 (((119 - M.length % 64) % 64 : Nat) : Int) by congr 1; omega) ?_
    generalize hz : (119 - M.length % 64) % 64 = z
    apply wc_draw 9 [48, 49, 50, 51, 52, 53, 54, 55, 56] [] [.eqv ?_, .is (fun v ok w => Sl ok w 5 1 v [u8v 128]), .eqv ?_, .eqv ?_, .eqv ?_, .eqv ?_, .eqv ?_, .eqv ?_, .eqv ?_] mixed; assumption; kernel_rfl; exact rfl; exact rfl; exact rfl
    apply obls_cons
    intro _ _ _ _
    repeat (first | (apply given_eqv; exact rfl; exact rfl; exact rfl) | (apply given_nil; exact rfl))
    repeat (first | refine wk ?_ | (apply wl_alloc; assumption; exact rfl; intro _ _ _ _ _ _) | (apply wl_boxS; assumption; exact rfl; exact rfl; exact rfl; intro _ _ _ _ _ _) | (apply wl_boxV; assumption; exact rfl; exact rfl; exact rfl; intro _ _ _ _ _ _) | (apply wl_storeS; assumption; exact rfl; exact rfl; (repeat (first | exact Upd.here | apply Upd.there)); exact rfl; exact rfl; exact rfl; intro _ _ _) | (apply wl_storeV; assumption; exact rfl; exact rfl; (repeat (first | exact Upd.here | apply Upd.there)); exact rfl; exact rfl; exact rfl; intro _ _ _) | (apply wl_buildL; assumption; exact rfl; exact rfl; exact rfl; exact rfl; exact rfl; exact rfl; exact rfl; exact rfl; exact rfl; intro _ _ _ _ _))
    first | (apply we_gotE; assumption; exact rfl) | (apply we_gotX; assumption; assumption; exact rfl)
    apply obls_cons
    intro _ _ _ _
    repeat (first | (apply given_eqv; exact rfl; exact rfl; exact rfl) | (apply given_nil; exact rfl))
    repeat (first | refine wk ?_ | (apply wl_alloc; assumption; exact rfl; intro _ _ _ _ _ _) | (apply wl_boxS; assumption; exact rfl; exact rfl; exact rfl; intro _ _ _ _ _ _) | (apply wl_boxV; assumption; exact rfl; exact rfl; exact rfl; intro _ _ _ _ _ _) | (apply wl_storeS; assumption; exact rfl; exact rfl; (repeat (first | exact Upd.here | apply Upd.there)); exact rfl; exact rfl; exact rfl; intro _ _ _) | (apply wl_storeV; assumption; exact rfl; exact rfl; (repeat (first | exact Upd.here | apply Upd.there)); exact rfl; exact rfl; exact rfl; intro _ _ _) | (apply wl_buildL; assumption; exact rfl; exact rfl; exact rfl; exact rfl; exact rfl; exact rfl; exact rfl; exact rfl; exact rfl; intro _ _ _ _ _))
    · apply we_got; exact rfl; assumption; assumption; show Sl _ _ _ _ _ _; assumption
    · apply obls_cons
      intro okA wA hSA hEA
      apply given_is; exact rfl; exact rfl; exact rfl
      intro v hv
      apply given_nil; exact rfl
      have hsl := hv.sl
      obtain ⟨A, c, rfl⟩ := hsl.shape
      apply wl_strD (l := [128]); exact rfl; exact hsl; exact rfl
      repeat (first | refine wk ?_ | (apply wl_alloc; assumption; exact rfl; intro _ _ _ _ _ _) | (apply wl_boxS; assumption; exact rfl; exact rfl; exact rfl; intro _ _ _ _ _ _) | (apply wl_boxV; assumption; exact rfl; exact rfl; exact rfl; intro _ _ _ _ _ _) | (apply wl_storeS; assumption; exact rfl; exact rfl; (repeat (first | exact Upd.here | apply Upd.there)); exact rfl; exact rfl; exact rfl; intro _ _ _) | (apply wl_storeV; assumption; exact rfl; exact rfl; (repeat (first | exact Upd.here | apply Upd.there)); exact rfl; exact rfl; exact rfl; intro _ _ _) | (apply wl_buildL; assumption; exact rfl; exact rfl; exact rfl; exact rfl; exact rfl; exact rfl; exact rfl; exact rfl; exact rfl; intro _ _ _ _ _))
      first | (apply we_gotE; assumption; exact rfl) | (apply we_gotX; assumption; assumption; exact rfl)
      apply obls_cons
      intro _ _ _ _
      repeat (first | (apply given_eqv; exact rfl; exact rfl; exact rfl) | (apply given_nil; exact rfl))
      repeat (first | refine wk ?_ | (apply wl_alloc; assumption; exact rfl; intro _ _ _ _ _ _) | (apply wl_boxS; assumption; exact rfl; exact rfl; exact rfl; intro _ _ _ _ _ _) | (apply wl_boxV; assumption; exact rfl; exact rfl; exact rfl; intro _ _ _ _ _ _) | (apply wl_storeS; assumption; exact rfl; exact rfl; (repeat (first | exact Upd.here | apply Upd.there)); exact rfl; exact rfl; exact rfl; intro _ _ _) | (apply wl_storeV; assumption; exact rfl; exact rfl; (repeat (first | exact Upd.here | apply Upd.there)); exact rfl; exact rfl; exact rfl; intro _ _ _) | (apply wl_buildL; assumption; exact rfl; exact rfl; exact rfl; exact rfl; exact rfl; exact rfl; exact rfl; exact rfl; exact rfl; intro _ _ _ _ _))
      first | (apply we_gotE; assumption; exact rfl) | (apply we_gotX; assumption; assumption; exact rfl)
      apply obls_cons
      intro _ _ _ _
      repeat (first | (apply given_eqv; exact rfl; exact rfl; exact rfl) | (apply given_nil; exact rfl))
      apply wl_callE; assumption; exact rfl
      exact repeat_spec [0] z (by simp; omega) (by omega) _
      exact rfl
      rintro _ _ rfl _ _
      repeat (first | refine wk ?_ | (apply wl_alloc; assumption; exact rfl; intro _ _ _ _ _ _) | (apply wl_boxS; assumption; exact rfl; exact rfl; exact rfl; intro _ _ _ _ _ _) | (apply wl_boxV; assumption; exact rfl; exact rfl; exact rfl; intro _ _ _ _ _ _) | (apply wl_storeS; assumption; exact rfl; exact rfl; (repeat (first | exact Upd.here | apply Upd.there)); exact rfl; exact rfl; exact rfl; intro _ _ _) | (apply wl_storeV; assumption; exact rfl; exact rfl; (repeat (first | exact Upd.here | apply Upd.there)); exact rfl; exact rfl; exact rfl; intro _ _ _) | (apply wl_buildL; assumption; exact rfl; exact rfl; exact rfl; exact rfl; exact rfl; exact rfl; exact rfl; exact rfl; exact rfl; intro _ _ _ _ _))
      first | (apply we_gotE; assumption; exact rfl) | (apply we_gotX; assumption; assumption; exact rfl)
      apply obls_cons
      intro _ _ _ _
      repeat (first | (apply given_eqv; exact rfl; exact rfl; exact rfl) | (apply given_nil; exact rfl))
      apply wl_cat; exact rfl; exact rfl; simp; omega; exact rfl
      repeat (first | refine wk ?_ | (apply wl_alloc; assumption; exact rfl; intro _ _ _ _ _ _) | (apply wl_boxS; assumption; exact rfl; exact rfl; exact rfl; intro _ _ _ _ _ _) | (apply wl_boxV; assumption; exact rfl; exact rfl; exact rfl; intro _ _ _ _ _ _) | (apply wl_storeS; assumption; exact rfl; exact rfl; (repeat (first | exact Upd.here | apply Upd.there)); exact rfl; exact rfl; exact rfl; intro _ _ _) | (apply wl_storeV; assumption; exact rfl; exact rfl; (repeat (first | exact Upd.here | apply Upd.there)); exact rfl; exact rfl; exact rfl; intro _ _ _) | (apply wl_buildL; assumption; exact rfl; exact rfl; exact rfl; exact rfl; exact rfl; exact rfl; exact rfl; exact rfl; exact rfl; intro _ _ _ _ _))
      first | (apply we_gotE; assumption; exact rfl) | (apply we_gotX; assumption; assumption; exact rfl)
      apply obls_cons
      intro _ _ _ _
      repeat (first | (apply given_eqv; exact rfl; exact rfl; exact rfl) | (apply given_nil; exact rfl))
      repeat (first | refine wk ?_ | (apply wl_alloc; assumption; exact rfl; intro _ _ _ _ _ _) | (apply wl_boxS; assumption; exact rfl; exact rfl; exact rfl; intro _ _ _ _ _ _) | (apply wl_boxV; assumption; exact rfl; exact rfl; exact rfl; intro _ _ _ _ _ _) | (apply wl_storeS; assumption; exact rfl; exact rfl; (repeat (first | exact Upd.here | apply Upd.there)); exact rfl; exact rfl; exact rfl; intro _ _ _) | (apply wl_storeV; assumption; exact rfl; exact rfl; (repeat (first | exact Upd.here | apply Upd.there)); exact rfl; exact rfl; exact rfl; intro _ _ _) | (apply wl_buildL; assumption; exact rfl; exact rfl; exact rfl; exact rfl; exact rfl; exact rfl; exact rfl; exact rfl; exact rfl; intro _ _ _ _ _))
      first | (apply we_gotE; assumption; exact rfl) | (apply we_gotX; assumption; assumption; exact rfl)
      apply obls_cons
      intro _ _ _ _
      repeat (first | (apply given_eqv; exact rfl; exact rfl; exact rfl) | (apply given_nil; exact rfl))
      apply wl_strA; assumption; exact rfl; (repeat (first | exact Has.here | apply Has.there))
      · rw [fl_u8v]; exact bytesL_u8v _
      · exact rfl
      · exact rfl
      repeat (first | refine wk ?_ | (apply wl_alloc; assumption; exact rfl; intro _ _ _ _ _ _) | (apply wl_boxS; assumption; exact rfl; exact rfl; exact rfl; intro _ _ _ _ _ _) | (apply wl_boxV; assumption; exact rfl; exact rfl; exact rfl; intro _ _ _ _ _ _) | (apply wl_storeS; assumption; exact rfl; exact rfl; (repeat (first | exact Upd.here | apply Upd.there)); exact rfl; exact rfl; exact rfl; intro _ _ _) | (apply wl_storeV; assumption; exact rfl; exact rfl; (repeat (first | exact Upd.here | apply Upd.there)); exact rfl; exact rfl; exact rfl; intro _ _ _) | (apply wl_buildL; assumption; exact rfl; exact rfl; exact rfl; exact rfl; exact rfl; exact rfl; exact rfl; exact rfl; exact rfl; intro _ _ _ _ _))
      first | (apply we_gotE; assumption; exact rfl) | (apply we_gotX; assumption; assumption; exact rfl)
      apply obls_cons
      intro _ _ _ _
      repeat (first | (apply given_eqv; exact rfl; exact rfl; exact rfl) | (apply given_nil; exact rfl))
      apply wl_cat; exact rfl; exact rfl; simp [be64]; omega; exact rfl
      repeat (first | refine wk ?_ | (apply wl_alloc; assumption; exact rfl; intro _ _ _ _ _ _) | (apply wl_boxS; assumption; exact rfl; exact rfl; exact rfl; intro _ _ _ _ _ _) | (apply wl_boxV; assumption; exact rfl; exact rfl; exact rfl; intro _ _ _ _ _ _) | (apply wl_storeS; assumption; exact rfl; exact rfl; (repeat (first | exact Upd.here | apply Upd.there)); exact rfl; exact rfl; exact rfl; intro _ _ _) | (apply wl_storeV; assumption; exact rfl; exact rfl; (repeat (first | exact Upd.here | apply Upd.there)); exact rfl; exact rfl; exact rfl; intro _ _ _) | (apply wl_buildL; assumption; exact rfl; exact rfl; exact rfl; exact rfl; exact rfl; exact rfl; exact rfl; exact rfl; exact rfl; intro _ _ _ _ _))
      first | (apply we_gotE; assumption; exact rfl) | (apply we_gotX; assumption; assumption; exact rfl)
      apply obls_nil
      intro okB wB hSB hEB
      repeat (first | (apply given_eqv; exact rfl; exact rfl; exact rfl) | (apply given_nil; exact rfl))
      apply given_is; exact rfl; exact rfl; exact rfl
      intro _ _
      repeat (first | (apply given_eqv; exact rfl; exact rfl; exact rfl) | (apply given_nil; exact rfl))
      have hg2 : w.heap.size ≤ g2 := by
        rcases (hSB.own (.var g2 210 (hsh x buf M.length)) (by simp) g2 rfl).2.2 with h | h
        · exact h
        · exact h.elim
      have hn0 : g2 ≠ 1 := fun h => by have := hg.begin.lt; omega
      have hn2 : g2 ≠ 2 := fun h => by have := hg.factors.lt; omega
      have hpad : M ++ ([128] ++ (List.replicate z [(0 : UInt8)]).flatten ++ be64 (8 * M.length)) = pad M := by
        have : (List.replicate z [(0 : UInt8)]).flatten = zeros z := by simp [zeros]
        rw [this]
        simp [pad, hz]
      apply wl_call; exact rfl; exact write_spec _ g2 M x buf _ (St.glo hSB hg (fun h => h) (fun h => h)) hn0 hn2 (hSB.varAt (.there .here)) hH (by simp [be64]; omega); exact rfl
      rintro _ w6 ⟨rfl, x', buf', hH', hM⟩
      obtain ⟨hS6, _⟩ := hSB.mod (.there .here) hM
      rw [hpad] at hH' hS6
      clear hS hSB hM
      repeat (first | refine wk ?_ | (apply wl_alloc; assumption; exact rfl; intro _ _ _ _ _ _) | (apply wl_boxS; assumption; exact rfl; exact rfl; exact rfl; intro _ _ _ _ _ _) | (apply wl_boxV; assumption; exact rfl; exact rfl; exact rfl; intro _ _ _ _ _ _) | (apply wl_storeS; assumption; exact rfl; exact rfl; (repeat (first | exact Upd.here | apply Upd.there)); exact rfl; exact rfl; exact rfl; intro _ _ _) | (apply wl_storeV; assumption; exact rfl; exact rfl; (repeat (first | exact Upd.here | apply Upd.there)); exact rfl; exact rfl; exact rfl; intro _ _ _) | (apply wl_buildL; assumption; exact rfl; exact rfl; exact rfl; exact rfl; exact rfl; exact rfl; exact rfl; exact rfl; exact rfl; intro _ _ _ _ _))
      rename_i g5 ok5 w7 hS7 _ _
      replace hS7 := hS7.reseg (vs' := (zeros 32).map u8v) .here (by rw [hv_fl, fl_u8v]; rfl)
      refine wc_loop (α := Nat) (fun i => [(2, .pointer (some ⟨g1, 0, none⟩)), (3, .pointer (some ⟨g2, 0, none⟩)), (7, .pointer (some ⟨g5, 0, none⟩)), (58, .int .i64 (i : Int))])
        (fun i w' => i ≤ 32 ∧ ∃ ok, St ⟨w, fun _ => True, fun _ => False⟩ ok [.var g5 33 ((x'.bytes.take i ++ zeros (32 - i)).map u8v), .var g3 212 ((be64 (8 * M.length)).map u8v), .var g2 210 (hsh x' buf' (pad M).length), .var g1 33 [hv zeroH]] w') (fun i => 32 - i) 0 ⟨rfl, rfl, rfl, rfl, trivial⟩ ⟨by omega, ok5, hS7⟩ ?_
      clear hS6 hS7
      intro i w8 ⟨hi, ok, hS⟩
      repeat (first | refine wk ?_ | (apply wl_alloc; assumption; exact rfl; intro _ _ _ _ _ _) | (apply wl_boxS; assumption; exact rfl; exact rfl; exact rfl; intro _ _ _ _ _ _) | (apply wl_boxV; assumption; exact rfl; exact rfl; exact rfl; intro _ _ _ _ _ _) | (apply wl_storeS; assumption; exact rfl; exact rfl; (repeat (first | exact Upd.here | apply Upd.there)); exact rfl; exact rfl; exact rfl; intro _ _ _) | (apply wl_storeV; assumption; exact rfl; exact rfl; (repeat (first | exact Upd.here | apply Upd.there)); exact rfl; exact rfl; exact rfl; intro _ _ _) | (apply wl_buildL; assumption; exact rfl; exact rfl; exact rfl; exact rfl; exact rfl; exact rfl; exact rfl; exact rfl; exact rfl; intro _ _ _ _ _))
      refine wc_cond rfl (fun hlt => ?_) (fun hlt => ?_)
      · repeat (first | refine wk ?_ | (apply wl_alloc; assumption; exact rfl; intro _ _ _ _ _ _) | (apply wl_boxS; assumption; exact rfl; exact rfl; exact rfl; intro _ _ _ _ _ _) | (apply wl_boxV; assumption; exact rfl; exact rfl; exact rfl; intro _ _ _ _ _ _) | (apply wl_storeS; assumption; exact rfl; exact rfl; (repeat (first | exact Upd.here | apply Upd.there)); exact rfl; exact rfl; exact rfl; intro _ _ _) | (apply wl_storeV; assumption; exact rfl; exact rfl; (repeat (first | exact Upd.here | apply Upd.there)); exact rfl; exact rfl; exact rfl; intro _ _ _) | (apply wl_buildL; assumption; exact rfl; exact rfl; exact rfl; exact rfl; exact rfl; exact rfl; exact rfl; exact rfl; exact rfl; intro _ _ _ _ _))
        apply wl_div; exact rfl; exact rfl; exact rfl; omega; omega; (intro c _ _; exact wrap64_id (by omega) (by omega)); exact rfl
        repeat (first | refine wk ?_ | (apply wl_alloc; assumption; exact rfl; intro _ _ _ _ _ _) | (apply wl_boxS; assumption; exact rfl; exact rfl; exact rfl; intro _ _ _ _ _ _) | (apply wl_boxV; assumption; exact rfl; exact rfl; exact rfl; intro _ _ _ _ _ _) | (apply wl_storeS; assumption; exact rfl; exact rfl; (repeat (first | exact Upd.here | apply Upd.there)); exact rfl; exact rfl; exact rfl; intro _ _ _) | (apply wl_storeV; assumption; exact rfl; exact rfl; (repeat (first | exact Upd.here | apply Upd.there)); exact rfl; exact rfl; exact rfl; intro _ _ _) | (apply wl_buildL; assumption; exact rfl; exact rfl; exact rfl; exact rfl; exact rfl; exact rfl; exact rfl; exact rfl; exact rfl; intro _ _ _ _ _))
        apply wl_idxA (i / 4); exact rfl; exact rfl; omega; omega; exact rfl
        apply wl_loadU; assumption; exact rfl; (repeat (first | exact Has.here | apply Has.there)); exact hsh_units _ _ _; rw [show 0 + 0 + i / 4 * 1 = i / 4 by omega]; exact hsh_x _ _ _ _ (by omega); exact rfl
        repeat (first | refine wk ?_ | (apply wl_alloc; assumption; exact rfl; intro _ _ _ _ _ _) | (apply wl_boxS; assumption; exact rfl; exact rfl; exact rfl; intro _ _ _ _ _ _) | (apply wl_boxV; assumption; exact rfl; exact rfl; exact rfl; intro _ _ _ _ _ _) | (apply wl_storeS; assumption; exact rfl; exact rfl; (repeat (first | exact Upd.here | apply Upd.there)); exact rfl; exact rfl; exact rfl; intro _ _ _) | (apply wl_storeV; assumption; exact rfl; exact rfl; (repeat (first | exact Upd.here | apply Upd.there)); exact rfl; exact rfl; exact rfl; intro _ _ _) | (apply wl_buildL; assumption; exact rfl; exact rfl; exact rfl; exact rfl; exact rfl; exact rfl; exact rfl; exact rfl; exact rfl; intro _ _ _ _ _))
        apply wl_div; exact rfl; exact rfl; exact rfl; omega; omega; (intro c _ _; exact wrap64_id (by omega) (by omega)); exact rfl
        repeat (first | refine wk ?_ | (apply wl_alloc; assumption; exact rfl; intro _ _ _ _ _ _) | (apply wl_boxS; assumption; exact rfl; exact rfl; exact rfl; intro _ _ _ _ _ _) | (apply wl_boxV; assumption; exact rfl; exact rfl; exact rfl; intro _ _ _ _ _ _) | (apply wl_storeS; assumption; exact rfl; exact rfl; (repeat (first | exact Upd.here | apply Upd.there)); exact rfl; exact rfl; exact rfl; intro _ _ _) | (apply wl_storeV; assumption; exact rfl; exact rfl; (repeat (first | exact Upd.here | apply Upd.there)); exact rfl; exact rfl; exact rfl; intro _ _ _) | (apply wl_buildL; assumption; exact rfl; exact rfl; exact rfl; exact rfl; exact rfl; exact rfl; exact rfl; exact rfl; exact rfl; intro _ _ _ _ _))
        apply wl_shr32 (24 - 8 * (i % 4)); exact rfl; exact rfl; omega; omega; exact rfl
        apply wl_convI'; exact rfl; exact rfl
        apply wl_as 74 rfl (show _ = u8v (UInt8.ofNat ((x'.words.getD (i / 4) 0).toNat / 2 ^ (24 - 8 * (i % 4)))) by
          rw [← u8w, BitVec.toNat_ushiftRight, Nat.shiftRight_eq_div_pow])
        apply wl_idxA i; exact rfl; exact rfl; exact rfl; omega; exact rfl
        apply wl_storeU; assumption; exact rfl; exact rfl; (repeat (first | exact Upd.here | apply Upd.there)); exact Units.map u8v_unit _; exact rfl; exact u8v_good _
        · simp [zeros, H8.bytes_len]; omega
        intro w9 hS9 _
        rw [← List.map_set, show 0 + i * 1 = i by omega, fill_next _ 32 i _ rfl (by omega) (bytes_get x' i (by omega))] at hS9
        repeat (first | refine wk ?_ | (apply wl_alloc; assumption; exact rfl; intro _ _ _ _ _ _) | (apply wl_boxS; assumption; exact rfl; exact rfl; exact rfl; intro _ _ _ _ _ _) | (apply wl_boxV; assumption; exact rfl; exact rfl; exact rfl; intro _ _ _ _ _ _) | (apply wl_storeS; assumption; exact rfl; exact rfl; (repeat (first | exact Upd.here | apply Upd.there)); exact rfl; exact rfl; exact rfl; intro _ _ _) | (apply wl_storeV; assumption; exact rfl; exact rfl; (repeat (first | exact Upd.here | apply Upd.there)); exact rfl; exact rfl; exact rfl; intro _ _ _) | (apply wl_buildL; assumption; exact rfl; exact rfl; exact rfl; exact rfl; exact rfl; exact rfl; exact rfl; exact rfl; exact rfl; intro _ _ _ _ _))
        exact we_round (i + 1) ⟨rfl, rfl, rfl, rfl, trivial⟩ ⟨by omega, _, hS9⟩ (by omega)
      · obtain rfl : i = 32 := by omega
        have hb := sha_of hH'
        replace hS := hS.reseg (vs' := [hv (shaH M)]) .here (by
          rw [hv_fl, fl_u8v]
          show (x'.bytes.take 32 ++ zeros 0).map u8v = (sha M).map u8v
          rw [← hb]
          rfl)
        repeat (first | refine wk ?_ | (apply wl_alloc; assumption; exact rfl; intro _ _ _ _ _ _) | (apply wl_boxS; assumption; exact rfl; exact rfl; exact rfl; intro _ _ _ _ _ _) | (apply wl_boxV; assumption; exact rfl; exact rfl; exact rfl; intro _ _ _ _ _ _) | (apply wl_storeS; assumption; exact rfl; exact rfl; (repeat (first | exact Upd.here | apply Upd.there)); exact rfl; exact rfl; exact rfl; intro _ _ _) | (apply wl_storeV; assumption; exact rfl; exact rfl; (repeat (first | exact Upd.here | apply Upd.there)); exact rfl; exact rfl; exact rfl; intro _ _ _) | (apply wl_buildL; assumption; exact rfl; exact rfl; exact rfl; exact rfl; exact rfl; exact rfl; exact rfl; exact rfl; exact rfl; intro _ _ _ _ _))
        (apply we_ret1; exact rfl; apply res_cell; assumption; exact rfl; (repeat (first | exact Has.here | apply Has.there)); exact rfl)
        exact ⟨rfl, St.out (by assumption)⟩
/-! of texts -/
theorem of_spec (w : World) (l : List Bs) (v : Value) (ok0 : Nat → Prop) (hg : Glo w) (hsl : Sl ok0 w 9 1 v (l.map sv)) (hlen : l.flatten.length ≤ 1152921504606846976) :
    Ret Tryz.prog 152 [v] w fun v w' => v = hv (shaH l.flatten) ∧ Ext w w' := by
  refine ret_enter Tryz.func152 rfl Tryz.ntmps152 rfl ?_
  have hS := St.start w (fun _ => True) (fun _ _ => trivial)
  obtain ⟨A, c, rfl, _⟩ := hsl.form
  have hmx := hsl.cap
  simp only [maxLen] at hmx
  repeat (first | refine wk ?_ | (apply wl_alloc; assumption; exact rfl; intro _ _ _ _ _ _) | (apply wl_boxS; assumption; exact rfl; exact rfl; exact rfl; intro _ _ _ _ _ _) | (apply wl_boxV; assumption; exact rfl; exact rfl; exact rfl; intro _ _ _ _ _ _) | (apply wl_storeS; assumption; exact rfl; exact rfl; (repeat (first | exact Upd.here | apply Upd.there)); exact rfl; exact rfl; exact rfl; intro _ _ _) | (apply wl_storeV; assumption; exact rfl; exact rfl; (repeat (first | exact Upd.here | apply Upd.there)); exact rfl; exact rfl; exact rfl; intro _ _ _) | (apply wl_buildL; assumption; exact rfl; exact rfl; exact rfl; exact rfl; exact rfl; exact rfl; exact rfl; exact rfl; exact rfl; intro _ _ _ _ _))
  apply wl_call; exact rfl; exact new_spec _ (St.glo (by assumption) hg (fun h => h) (fun h => h)); exact rfl
  rintro _ w2 ⟨g2, rfl, hN⟩
  rename_i g1 ok1 w1 hS1 _ _
  obtain ⟨hS2, _⟩ := hS1.newOf hN
  clear hS hS1
  repeat (first | refine wk ?_ | (apply wl_alloc; assumption; exact rfl; intro _ _ _ _ _ _) | (apply wl_boxS; assumption; exact rfl; exact rfl; exact rfl; intro _ _ _ _ _ _) | (apply wl_boxV; assumption; exact rfl; exact rfl; exact rfl; intro _ _ _ _ _ _) | (apply wl_storeS; assumption; exact rfl; exact rfl; (repeat (first | exact Upd.here | apply Upd.there)); exact rfl; exact rfl; exact rfl; intro _ _ _) | (apply wl_storeV; assumption; exact rfl; exact rfl; (repeat (first | exact Upd.here | apply Upd.there)); exact rfl; exact rfl; exact rfl; intro _ _ _) | (apply wl_buildL; assumption; exact rfl; exact rfl; exact rfl; exact rfl; exact rfl; exact rfl; exact rfl; exact rfl; exact rfl; intro _ _ _ _ _))
  refine wc_loop (α := Nat × H8 × Bs) (fun q => [(2, .pointer (some ⟨g1, 0, none⟩)), (3, .pointer (some ⟨g2, 0, none⟩)), (7, .slice A l.length c), (8, .int .i64 (l.length : Nat)), (9, .int .i64 (q.1 : Int))])
    (fun q w' => q.1 ≤ l.length ∧ HS (l.take q.1).flatten q.2.1 q.2.2 ∧ ∃ ok, St ⟨w, fun _ => True, fun _ => False⟩ ok [.var g2 210 (hsh q.2.1 q.2.2 (l.take q.1).flatten.length), .var g1 33 [hv zeroH]] w') (fun q => l.length - q.1) (0, h0, zeros 64) ⟨rfl, rfl, rfl, rfl, rfl, trivial⟩ ⟨by omega, HS.nil, _, hS2⟩ ?_
  clear hS2
  rintro ⟨i, x, b⟩ w3 ⟨hi, hH, ok, hS⟩
  dsimp only at hi hH hS ⊢
  have hg2 : w.heap.size ≤ g2 := by
    rcases (hS.own (.var g2 210 (hsh x b (l.take i).flatten.length)) (by simp) g2 rfl).2.2 with h | h
    · exact h
    · exact h.elim
  have hn0 : g2 ≠ 1 := fun h => by have := hg.begin.lt; omega
  have hn2 : g2 ≠ 2 := fun h => by have := hg.factors.lt; omega
  repeat (first | refine wk ?_ | (apply wl_alloc; assumption; exact rfl; intro _ _ _ _ _ _) | (apply wl_boxS; assumption; exact rfl; exact rfl; exact rfl; intro _ _ _ _ _ _) | (apply wl_boxV; assumption; exact rfl; exact rfl; exact rfl; intro _ _ _ _ _ _) | (apply wl_storeS; assumption; exact rfl; exact rfl; (repeat (first | exact Upd.here | apply Upd.there)); exact rfl; exact rfl; exact rfl; intro _ _ _) | (apply wl_storeV; assumption; exact rfl; exact rfl; (repeat (first | exact Upd.here | apply Upd.there)); exact rfl; exact rfl; exact rfl; intro _ _ _) | (apply wl_buildL; assumption; exact rfl; exact rfl; exact rfl; exact rfl; exact rfl; exact rfl; exact rfl; exact rfl; exact rfl; intro _ _ _ _ _))
  refine wc_cond rfl (fun hlt => ?_) (fun hlt => ?_)
  · have hlt : i < l.length := by omega
    repeat (first | refine wk ?_ | (apply wl_alloc; assumption; exact rfl; intro _ _ _ _ _ _) | (apply wl_boxS; assumption; exact rfl; exact rfl; exact rfl; intro _ _ _ _ _ _) | (apply wl_boxV; assumption; exact rfl; exact rfl; exact rfl; intro _ _ _ _ _ _) | (apply wl_storeS; assumption; exact rfl; exact rfl; (repeat (first | exact Upd.here | apply Upd.there)); exact rfl; exact rfl; exact rfl; intro _ _ _) | (apply wl_storeV; assumption; exact rfl; exact rfl; (repeat (first | exact Upd.here | apply Upd.there)); exact rfl; exact rfl; exact rfl; intro _ _ _) | (apply wl_buildL; assumption; exact rfl; exact rfl; exact rfl; exact rfl; exact rfl; exact rfl; exact rfl; exact rfl; exact rfl; intro _ _ _ _ _))
    apply wl_idxD i (hlt := hlt); exact rfl; exact rfl; exact hS.keepSl hsl (fun _ _ h => h); exact rfl; exact rfl
    intro b0 o0 _ hr0
    repeat (first | refine wk ?_ | (apply wl_alloc; assumption; exact rfl; intro _ _ _ _ _ _) | (apply wl_boxS; assumption; exact rfl; exact rfl; exact rfl; intro _ _ _ _ _ _) | (apply wl_boxV; assumption; exact rfl; exact rfl; exact rfl; intro _ _ _ _ _ _) | (apply wl_storeS; assumption; exact rfl; exact rfl; (repeat (first | exact Upd.here | apply Upd.there)); exact rfl; exact rfl; exact rfl; intro _ _ _) | (apply wl_storeV; assumption; exact rfl; exact rfl; (repeat (first | exact Upd.here | apply Upd.there)); exact rfl; exact rfl; exact rfl; intro _ _ _) | (apply wl_buildL; assumption; exact rfl; exact rfl; exact rfl; exact rfl; exact rfl; exact rfl; exact rfl; exact rfl; exact rfl; intro _ _ _ _ _))
    have htk : (l.take (i + 1)).flatten = (l.take i).flatten ++ l[i] := by
      rw [List.take_add_one, List.getElem?_eq_getElem hlt, Option.toList_some, List.flatten_append]
      simp only [List.flatten_cons, List.flatten_nil, List.append_nil]
    have hle : (l.take (i + 1)).flatten.length ≤ l.flatten.length := by
      have h := congrArg (fun q => (List.flatten q).length) (List.take_append_drop (i + 1) l)
      simp only [List.flatten_append, List.length_append] at h
      omega
    apply wl_call; exact rfl; exact write_spec _ g2 _ _ _ l[i] (St.glo hS hg (fun h => h) (fun h => h)) hn0 hn2 (hS.varAt .here) hH (by rw [htk, List.length_append] at hle; omega); exact rfl
    rintro _ w6 ⟨rfl, x', b', hH', hM⟩
    obtain ⟨hS6, _⟩ := hS.mod .here hM
    rw [← htk] at hH' hS6
    repeat (first | refine wk ?_ | (apply wl_alloc; assumption; exact rfl; intro _ _ _ _ _ _) | (apply wl_boxS; assumption; exact rfl; exact rfl; exact rfl; intro _ _ _ _ _ _) | (apply wl_boxV; assumption; exact rfl; exact rfl; exact rfl; intro _ _ _ _ _ _) | (apply wl_storeS; assumption; exact rfl; exact rfl; (repeat (first | exact Upd.here | apply Upd.there)); exact rfl; exact rfl; exact rfl; intro _ _ _) | (apply wl_storeV; assumption; exact rfl; exact rfl; (repeat (first | exact Upd.here | apply Upd.there)); exact rfl; exact rfl; exact rfl; intro _ _ _) | (apply wl_buildL; assumption; exact rfl; exact rfl; exact rfl; exact rfl; exact rfl; exact rfl; exact rfl; exact rfl; exact rfl; intro _ _ _ _ _))
    exact we_round (i + 1, x', b') ⟨rfl, rfl, rfl, rfl, rfl, trivial⟩ ⟨hlt, hH', _, hS6⟩ (by simp only; omega)
  · obtain rfl : i = l.length := by omega
    rw [List.take_length] at hS hH
    repeat (first | refine wk ?_ | (apply wl_alloc; assumption; exact rfl; intro _ _ _ _ _ _) | (apply wl_boxS; assumption; exact rfl; exact rfl; exact rfl; intro _ _ _ _ _ _) | (apply wl_boxV; assumption; exact rfl; exact rfl; exact rfl; intro _ _ _ _ _ _) | (apply wl_storeS; assumption; exact rfl; exact rfl; (repeat (first | exact Upd.here | apply Upd.there)); exact rfl; exact rfl; exact rfl; intro _ _ _) | (apply wl_storeV; assumption; exact rfl; exact rfl; (repeat (first | exact Upd.here | apply Upd.there)); exact rfl; exact rfl; exact rfl; intro _ _ _) | (apply wl_buildL; assumption; exact rfl; exact rfl; exact rfl; exact rfl; exact rfl; exact rfl; exact rfl; exact rfl; exact rfl; intro _ _ _ _ _))
    apply wl_callE; assumption; exact rfl
    exact sum_spec _ g2 _ _ _ (St.glo hS hg (fun h => h) (fun h => h)) (hS.varAt .here) hH hlen
    exact rfl
    rintro _ _ rfl _ _
    repeat (first | refine wk ?_ | (apply wl_alloc; assumption; exact rfl; intro _ _ _ _ _ _) | (apply wl_boxS; assumption; exact rfl; exact rfl; exact rfl; intro _ _ _ _ _ _) | (apply wl_boxV; assumption; exact rfl; exact rfl; exact rfl; intro _ _ _ _ _ _) | (apply wl_storeS; assumption; exact rfl; exact rfl; (repeat (first | exact Upd.here | apply Upd.there)); exact rfl; exact rfl; exact rfl; intro _ _ _) | (apply wl_storeV; assumption; exact rfl; exact rfl; (repeat (first | exact Upd.here | apply Upd.there)); exact rfl; exact rfl; exact rfl; intro _ _ _) | (apply wl_buildL; assumption; exact rfl; exact rfl; exact rfl; exact rfl; exact rfl; exact rfl; exact rfl; exact rfl; exact rfl; intro _ _ _ _ _))
    (apply we_ret1; exact rfl; apply res_cell; assumption; exact rfl; (repeat (first | exact Has.here | apply Has.there)); exact rfl)
    exact ⟨rfl, St.out (by assumption)⟩
theorem htext_spec (w : World) (h : Hsh) : Ret Tryz.prog 78 [hv h] w fun v w' => v = sv h.l ∧ Ext w w' := by
  refine ret_enter Tryz.func78 rfl Tryz.ntmps78 rfl ?_
  have hS := St.start w (fun _ => True) (fun _ _ => trivial)
  repeat (first | refine wk ?_ | (apply wl_alloc; assumption; exact rfl; intro _ _ _ _ _ _) | (apply wl_boxS; assumption; exact rfl; exact rfl; exact rfl; intro _ _ _ _ _ _) | (apply wl_boxV; assumption; exact rfl; exact rfl; exact rfl; intro _ _ _ _ _ _) | (apply wl_storeS; assumption; exact rfl; exact rfl; (repeat (first | exact Upd.here | apply Upd.there)); exact rfl; exact rfl; exact rfl; intro _ _ _) | (apply wl_storeV; assumption; exact rfl; exact rfl; (repeat (first | exact Upd.here | apply Upd.there)); exact rfl; exact rfl; exact rfl; intro _ _ _) | (apply wl_buildL; assumption; exact rfl; exact rfl; exact rfl; exact rfl; exact rfl; exact rfl; exact rfl; exact rfl; exact rfl; intro _ _ _ _ _))
  apply wl_strA; assumption; exact rfl; (repeat (first | exact Has.here | apply Has.there))
  · rw [hv_fl]; exact bytesL_u8v _
  · exact h.len
  · exact rfl
  repeat (first | refine wk ?_ | (apply wl_alloc; assumption; exact rfl; intro _ _ _ _ _ _) | (apply wl_boxS; assumption; exact rfl; exact rfl; exact rfl; intro _ _ _ _ _ _) | (apply wl_boxV; assumption; exact rfl; exact rfl; exact rfl; intro _ _ _ _ _ _) | (apply wl_storeS; assumption; exact rfl; exact rfl; (repeat (first | exact Upd.here | apply Upd.there)); exact rfl; exact rfl; exact rfl; intro _ _ _) | (apply wl_storeV; assumption; exact rfl; exact rfl; (repeat (first | exact Upd.here | apply Upd.there)); exact rfl; exact rfl; exact rfl; intro _ _ _) | (apply wl_buildL; assumption; exact rfl; exact rfl; exact rfl; exact rfl; exact rfl; exact rfl; exact rfl; exact rfl; exact rfl; intro _ _ _ _ _))
  (apply we_ret1; exact rfl; apply res_tmp; exact rfl)
  exact ⟨rfl, St.out (by assumption)⟩
end Go.Proofs.YtkijoddconipoaaGreatDoor

namespace Go.Proofs.YtkijoddconipoaaGreatDoor
open Go Go.RowKit Tw Av
/-- the two tables, by what they hold -/
def GL : List (Nat × AV) := [(1, .agg 8 (h0.words.map fun x => .lit (w32v x))), (2, .agg 64 (kTab.map fun x => .lit (w32v x)))]
theorem rg_of_at {ok : Ok} {w : World} {b : Nat} {cs : List Value} (h : At ok w b 0 cs) (h0 : 0 < cs.length) : Rg w b 0 cs := by
  have h1 := (h 0 cs[0] (by simp [h0])).1
  unfold World.cell? at h1
  cases hb : w.heap[b]? with
  | none => simp [hb] at h1
  | some o =>
    cases o with
    | cells C T fr =>
      refine ⟨C, T, fr, hb, ?_⟩
      apply List.ext_getElem?
      intro j
      rw [List.drop_zero]
      rcases Nat.lt_or_ge j cs.length with hj | hj
      · have h2 := (h j cs[j] (by simp [hj])).1
        unfold World.cell? at h2
        simp only [hb, Nat.zero_add] at h2
        rw [List.getElem?_take_of_lt hj, List.getElem?_eq_getElem hj]
        simpa using h2
      · rw [List.getElem?_eq_none hj, List.getElem?_eq_none (by simp; omega)]
    | _ => simp [hb] at h1
theorem rcs_lits {ok : Ok} {w : World} {α : Type} {f : α → Value} : ∀ {l : List α} {cs : List Value}, RCs ok w (l.map fun x => .lit (f x)) cs → cs = l.map f
  | [], cs, h => by rw [List.map_nil, RCs] at h; exact h
  | c :: l, cs, h => by
    rw [List.map_cons, RCs] at h
    obtain ⟨c1, c2, rfl, h1, h2⟩ := h
    rw [RC] at h1
    rw [h1.1, rcs_lits h2]
    rfl
theorem glo_of {ok : Ok} {w : World} (h : Glob GL ok w) : Glo w := by
  refine ⟨?_, ?_⟩
  · obtain ⟨cs, h1, h2⟩ := h _ (by unfold GL; exact List.mem_cons_self)
    rw [RC] at h2
    have h3 := rcs_lits h2.2
    subst h3
    exact rg_of_at h1 (by simp [H8.words])
  · obtain ⟨cs, h1, h2⟩ := h (2, _) (by unfold GL; exact List.mem_cons_of_mem _ List.mem_cons_self)
    rw [RC] at h2
    have h3 := rcs_lits h2.2
    subst h3
    exact rg_of_at h1 (by simp [kTab])
theorem sl_of {ok : Ok} {w : World} {xs : List AV} {id : Option Value} {k : Nat} {v : Value} {vs : List Value} {E : TypeId} (h : RV ok w (.sl k xs id) v) (hx : ∀ cs, RCs ok w xs cs → cs = fl vs) (hl : xs.length = vs.length) (hk : ∀ x ∈ vs, x.cells.size = k) (hg : Tw.Good vs) (hk0 : 0 < k) : Sl (fun _ => True) w E k v vs := by
  obtain ⟨A, c, rfl, _, h2, h3, h4, _⟩ := sl_run h
  refine ⟨hk, hg, A, c, by rw [hl], by omega, h3, fun hn => ?_⟩
  obtain ⟨b, o, es, g1, g2, g3, g4⟩ := h4 (by omega)
  have := hx es g4
  subst this
  refine ⟨b, o, g1, trivial, rfl, ?_⟩
  have h0 : 0 < (fl vs).length ∨ (fl vs).length = 0 := by omega
  rcases h0 with h0 | h0
  · have : At ok w b o (fl vs) := g3
    have h1 := (this 0 (fl vs)[0] (by simp [h0])).1
    unfold World.cell? at h1
    cases hb : w.heap[b]? with
    | none => simp [hb] at h1
    | some ob =>
      cases ob with
      | cells C T fr =>
        refine ⟨C, T, fr, hb, ?_⟩
        apply List.ext_getElem?
        intro j
        rcases Nat.lt_or_ge j (fl vs).length with hj | hj
        · have h2 := (this j (fl vs)[j] (by simp [hj])).1
          unfold World.cell? at h2
          simp only [hb] at h2
          rw [List.getElem?_take_of_lt hj, List.getElem?_eq_getElem hj, List.getElem?_drop]
          simpa using h2
        · rw [List.getElem?_eq_none hj, List.getElem?_eq_none (by simp; omega)]
      | _ => simp [hb] at h1
  · have hvs : vs.length * k = 0 := by rw [← fl_length hk, h0]
    rcases Nat.mul_eq_zero.1 hvs with h | h
    · omega
    · omega
/-- a text's field, whatever the letter -/
def tlvT (c : Int) (s : Bs) : Bs := tlvText (UInt8.ofNat c.toNat) s
def tlvN (c : Int) (n : Nat) : Bs := tlvNum (UInt8.ofNat c.toNat) n
def tlvI (c : Int) (n : Int) : Bs := tlvInt (UInt8.ofNat c.toNat) n
instance {c : Int} {s : Bs} : LenLe (tlvT c s) 16777219 := ⟨by simp [tlvT, tlvText, bodyLen, List.length_take]; omega⟩
instance {c : Int} {n : Nat} : LenLe (tlvN c n) 16777219 := ⟨by unfold tlvN tlvNum; simp [tlvText, bodyLen, List.length_take]; omega⟩
instance {c : Int} {n : Int} : LenLe (tlvI c n) 16777219 := ⟨by unfold tlvI tlvInt tlvNum; simp [tlvText, bodyLen, List.length_take]; omega⟩
instance {h : Hsh} : LenLe h.l 32 := ⟨by rw [h.len]; exact Nat.le_refl _⟩
theorem letr {c : Int} (h : 0 ≤ c ∧ c < 256) : Value.int .u8 c = u8v (UInt8.ofNat c.toNat) := by
  unfold u8v
  congr 1
  have : (UInt8.ofNat c.toNat).toNat = c.toNat := by simp; omega
  rw [this]
  omega
instance fnText {c : Int} {s : Bs} : Ans Tryz.prog GL 60 [.lit (.int .u8 c), str s] (0 ≤ c ∧ c < 256) (str (tlvT c s)) := ⟨fun hc => spec_flat fun ok w cargs hg hv => by
  obtain ⟨u1, us, rfl, h1, u2, us2, rfl, h2, rfl⟩ := hv
  rw [RV0.lit h1, RV0.lit h2, letr hc]
  exact (text_spec _ s w).mono fun v w' hh => ⟨fun ok w => by rw [hh.1]; exact RVl rfl, hh.2⟩⟩
instance fnNum {c : Int} {n : Int} : Ans Tryz.prog GL 102 [.lit (.int .u8 c), .lit (.int .u64 n)] ((0 ≤ c ∧ c < 256) ∧ 0 ≤ n ∧ n < 18446744073709551616) (str (tlvN c n.toNat)) := ⟨fun hc => spec_flat fun ok w cargs hg hv => by
  obtain ⟨u1, us, rfl, h1, u2, us2, rfl, h2, rfl⟩ := hv
  rw [RV0.lit h1, RV0.lit h2, letr hc.1]
  have := num_spec (UInt8.ofNat c.toNat) n.toNat (by omega) w
  rw [show ((n.toNat : Nat) : Int) = n by omega] at this
  exact this.mono fun v w' hh => ⟨fun ok w => by rw [hh.1]; exact RVl rfl, hh.2⟩⟩
instance fnInt {c : Int} {n : Int} : Ans Tryz.prog GL 61 [.lit (.int .u8 c), int n] ((0 ≤ c ∧ c < 256) ∧ n ≤ 9223372036854775807) (str (tlvI c n)) := ⟨fun hc => spec_flat fun ok w cargs hg hv => by
  obtain ⟨u1, us, rfl, h1, u2, us2, rfl, h2, rfl⟩ := hv
  rw [RV0.lit h1, RV0.lit h2, letr hc.1]
  exact (int_spec _ n hc.2 w).mono fun v w' hh => ⟨fun ok w => by rw [hh.1]; exact RVl rfl, hh.2⟩⟩
instance fnHText {h : Hsh} : Ans Tryz.prog GL 78 [hA h] True (str h.l) := ⟨fun _ => spec_flat fun ok w cargs hg hv => by
  obtain ⟨u1, us, rfl, h1, rfl⟩ := hv
  rw [hA_RV h1]
  exact (htext_spec w h).mono fun v w' hh => ⟨fun ok w => by rw [hh.1]; exact RVl rfl, hh.2⟩⟩
theorem rcs_strs {ok : Ok} {w : World} : ∀ {l : List Bs} {cs : List Value}, RCs ok w (l.map str) cs → cs = fl (l.map sv)
  | [], cs, h => by rw [List.map_nil, RCs] at h; exact h
  | c :: l, cs, h => by
    rw [List.map_cons, RCs] at h
    obtain ⟨c1, c2, rfl, h1, h2⟩ := h
    rw [RC] at h1
    rw [h1.1, rcs_strs h2]
    rfl
/-- a bound of the texts' lengths, together -/
class LensLe (l : List Bs) (n : outParam Nat) : Prop where
  out : l.flatten.length ≤ n
instance : LensLe [] 0 := ⟨Nat.le_refl _⟩
instance {a : Bs} {l : List Bs} {n k : Nat} [h : LenLe a n] [g : LensLe l k] : LensLe (a :: l) (n + k) := ⟨by have := h.out; have := g.out; simp at *; omega⟩
def ofH (l : List Bs) : Hsh := shaH l.flatten
instance fnOf {xs : List AV} {id : Option Value} {l : List Bs} {n : Nat} [hs : Strs xs l] [hl : LensLe l n] : Ans Tryz.prog GL 152 [.sl 1 xs id] (n ≤ 1152921504606846976) (hA (ofH l)) := ⟨fun hc => spec_flat fun ok w cargs hg hv => by
  obtain ⟨u1, us, rfl, h1, rfl⟩ := hv
  have hx := hs.out
  subst hx
  exact (of_spec w l u1 (fun _ => True) (glo_of hg) (sl_of h1 (fun cs h => rcs_strs h) (by simp) (by intro x hx; obtain ⟨b, _, rfl⟩ := List.mem_map.1 hx; rfl) (Tw.Good.map (fun b => good_all rfl) l) (by decide)) (by have := hl.out; omega)).mono fun v w' hh => ⟨fun ok w => by rw [hh.1]; exact RV_hA _, hh.2⟩⟩
end Go.Proofs.YtkijoddconipoaaGreatDoor

namespace Go.Proofs.YtkijoddconipoaaGreatDoor
open Go Go.RowKit Tw Av
def leafH (x : Ent) : Hsh := ofH [[76], tlvT 107 x.key, tlvT 118 x.val]
def nodeH (a b : Hsh) : Hsh := ofH [[78], a.l, b.l]
def topH (n : Int) (h : Hsh) : Hsh := ofH [[84], tlvI 110 n, h.l]
instance fnLeaf {a b : Bs} : Ans Tryz.prog GL 130 [.agg 2 [str a, str b]] True (hA (leafH ⟨a, b⟩)) := ⟨fun _ => by
  refine spec_enter Tryz.func130 rfl Tryz.ntmps130 rfl (fun _ hs => ?_)
  repeat' (first | refine W ?_ | refine ob2 (fun _ => ?_) | intro _)
  refine reE ?_
  rfl⟩
instance fnNode {a b : Hsh} : Ans Tryz.prog GL 151 [hA a, hA b] True (hA (nodeH a b)) := ⟨fun _ => by
  refine spec_enter Tryz.func151 rfl Tryz.ntmps151 rfl (fun _ hs => ?_)
  repeat' (first | refine W ?_ | refine ob2 (fun _ => ?_) | intro _)
  refine reE ?_
  rfl⟩
instance fnTop {n : Int} {h : Hsh} : Ans Tryz.prog GL 131 [int n, hA h] (n ≤ 9223372036854775807) (hA (topH n h)) := ⟨fun hn => by
  refine spec_enter Tryz.func131 rfl Tryz.ntmps131 rfl (fun _ hs => ?_)
  repeat' (first | refine W ?_ | refine ob2 (fun _ => ?_) | intro _)
  refine reE ?_
  rfl⟩
end Go.Proofs.YtkijoddconipoaaGreatDoor

namespace Go.Proofs.YtkijoddconipoaaGreatDoor
open Go Go.RowKit Tw Av
theorem u8ofInt (n : Nat) : UInt8.ofNat (IntKind.u8.wrap (n : Int)).toNat = UInt8.ofNat n := by
  rw [IntKind.wrap_u8]
  apply UInt8.toNat_inj.1
  simp
  omega
theorem tlvT_eq (c : Int) (s : Bs) (n : Nat) (hn : n = (s.take bodyLen).length) : [UInt8.ofNat c.toNat, UInt8.ofNat (IntKind.u8.wrap ((n : Int) / 65536)).toNat, UInt8.ofNat (IntKind.u8.wrap ((n : Int) / 256)).toNat, UInt8.ofNat (IntKind.u8.wrap (n : Int)).toNat] ++ s.take bodyLen = tlvT c s := by
  subst hn
  have e1 := u8ofInt ((s.take bodyLen).length / 65536)
  have e2 := u8ofInt ((s.take bodyLen).length / 256)
  have e3 := u8ofInt (s.take bodyLen).length
  simp only [Int.natCast_ediv, Int.cast_ofNat_Int] at e1 e2
  rw [e1, e2, e3]
  rfl
instance {s : Bs} : LenLe (s.take bodyLen) 16777215 := ⟨by simp [bodyLen, List.length_take]; omega⟩
theorem convK0 {n : Int} (h0 : 0 ≤ n) (h : n < 256) : IntKind.u8.wrap n = n := by rw [IntKind.wrap_u8]; omega
instance fnRText {c : Int} {s : Bs} : Ans Tryz.prog GL 64 [.lit (.int .u8 c), str s] True (str (tlvT c s)) := ⟨fun _ => by
  refine spec_enter Tryz.func64 rfl Tryz.ntmps64 rfl (fun _ hs => ?_)
  repeat' (first | refine W ?_ | refine ob2 (fun _ => ?_) | intro _)
  refine ac_cond (fun hl => ?_) (fun hl => ?_)
  · repeat' (first | refine W ?_ | refine ob2 (fun _ => ?_) | intro _)
    have hb : (s.take 16777215).drop 0 = s.take bodyLen := rfl
    have hlen : (s.take bodyLen).length = 16777215 := by simp [bodyLen]; omega
    refine al_sliceS 0 16777215 ?_
    rw [hb]
    repeat' (first | refine W ?_ | refine ob2 (fun _ => ?_) | intro _)
    refine reE ?_
    exact congrArg str (tlvT_eq c s _ rfl)
  · repeat' (first | refine W ?_ | refine ob2 (fun _ => ?_) | intro _)
    refine reE ?_
    have hb : s.take bodyLen = s := List.take_of_length_le (by simp [bodyLen]; omega)
    have := tlvT_eq c s s.length (by rw [hb])
    rw [hb] at this
    exact congrArg str this⟩
end Go.Proofs.YtkijoddconipoaaGreatDoor

namespace Go.Proofs.YtkijoddconipoaaGreatDoor
open Go Go.ChangeShapes Go.WideShapes Go.ChangeAt Go.RowKit Tw Av
theorem own : ownKnob Tryz.prog.godebug = none := by kernel_rfl
theorem laidOut : laidOutB Tryz.prog = true := by kernel_rfl
def zsF : List Int := kTab.map fun x => (x.toNat : Int)
def zsB : List Int := h0.words.map fun x => (x.toNat : Int)
theorem laid_tail {P : Program} {x : String × DataW Unit} {r : List (String × DataW Unit)} {w : World} (h : laidMet P (x :: r) w) : laidMet P r w := by
  obtain ⟨ps, h1, h2, h3⟩ := h
  obtain ⟨g, t, cs, fuel, p, q, e1, e2, e3, e4, e5, rfl⟩ := h1
  exact ⟨q, e5, (List.nodup_append.1 h2).2.1, fun b off hb => h3 b off (by simp [hb])⟩
theorem lits_RCs {α : Type} {f : α → Value} {ok : Ok} {w : World} (hf : ∀ x, (f x).oneCell' = true) : ∀ l : List α, RCs ok w (l.map fun x => .lit (f x)) (l.map f)
  | [] => by rw [List.map_nil, RCs]; rfl
  | x :: l => by
    rw [List.map_cons, RCs]
    exact ⟨[f x], l.map f, rfl, by rw [RC]; exact ⟨rfl, hf x⟩, lits_RCs hf l⟩
theorem tab_glob {W : World} {g : Nat} {name : String} {l : List W32} {n : Nat} (hg : Tryz.prog.globalNamed name = some g) (hl : l.length = n) (h : Lib.TabIs Tryz.prog W name .u32 (l.map fun x => (x.toNat : Int))) : ∃ cs, At okT W g 0 cs ∧ RC okT W (.agg n (l.map fun x => .lit (w32v x))) cs := by
  refine ⟨l.map w32v, fun j v hj => ⟨?_, trivial⟩, ?_⟩
  · have hlt : j < l.length := by have := (List.getElem?_eq_some_iff.1 hj).1; simpa using this
    have h1 := Lib.TabIs.cell h hg j (by simpa using hlt)
    rw [Nat.zero_add, h1]
    rw [List.getElem?_map, List.getElem?_eq_getElem hlt] at hj
    simp only [Option.map_some, Option.some.injEq] at hj
    rw [← hj]
    simp [List.getD, hlt, w32v]
  · rw [RC]
    exact ⟨by simp [hl], lits_RCs (fun _ => rfl) l⟩
theorem glob_of {W : World} (h : laidMet Tryz.prog [("twinspan/hash.factors", Rows.laid_twinspan_hash_factors), ("twinspan/hash.begin", Rows.laid_twinspan_hash_begin)] W) : Glob GL okT W := by
  have gF : Tryz.prog.globalNamed "twinspan/hash.factors" = some 2 := by kernel_rfl
  have gB : Tryz.prog.globalNamed "twinspan/hash.begin" = some 1 := by kernel_rfl
  have h1 : Lib.TabIs Tryz.prog W "twinspan/hash.factors" .u32 zsF := Lib.tabIs_of_head (g := 2) (t := 206) (e := 166) (n := 64) gF (by kernel_rfl) (by kernel_rfl) (by kernel_rfl) (by kernel_rfl) (by kernel_rfl) (rest := [("twinspan/hash.begin", Rows.laid_twinspan_hash_begin)]) h
  have h2 : Lib.TabIs Tryz.prog W "twinspan/hash.begin" .u32 zsB := Lib.tabIs_of_head (g := 1) (t := 190) (e := 166) (n := 8) gB (by kernel_rfl) (by kernel_rfl) (by kernel_rfl) (by kernel_rfl) (by kernel_rfl) (rest := []) (laid_tail h)
  intro p hp
  unfold GL at hp
  rcases List.mem_cons.1 hp with rfl | hp
  · exact tab_glob gB rfl h2
  · obtain rfl := List.mem_singleton.1 hp
    exact tab_glob gF rfl h1
def rowOf (c : Array Value) : Obj → Obj
  | .cells _ t frozen => .cells c t frozen
  | o => o
/-- a world for the witness: the settled one, the tables laid -/
noncomputable def laidWorld (os : Os) : World :=
  { World.holding Tryz.prog os ⟨#[], #[], []⟩ with heap := ((World.holding Tryz.prog os ⟨#[], #[], []⟩).heap.modify 1 (rowOf (h0.words.map w32v).toArray)).modify 2 (rowOf (kTab.map w32v).toArray) }
end Go.Proofs.YtkijoddconipoaaGreatDoor
