/- Law 14: its small functions. -/
import Derived.Test.YtkijoddconipoaaGreatDoorP1
import Derived.Test.YtkijoddconipoaaGreatDoorP2
import Derived.Test.YtkijoddconipoaaGreatDoorP3
import Derived.Test.YtkijoddconipoaaGreatDoorP4
import Derived.Test.YtkijoddconipoaaGreatDoorP5
import Derived.Test.YtkijoddconipoaaGreatDoorQ1
import Derived.Test.YtkijoddconipoaaGreatDoorQ2
import Derived.Test.YtkijoddconipoaaGreatDoorK1
import Derived.Test.YtkijoddconipoaaGreatDoorQ3
import Derived.Test.YtkijoddconipoaaGreatDoorQ5
import Derived.Test.YtkijoddconipoaaGreatDoorQ13
import Derived.Test.YtkijoddconipoaaGreatDoorQ14
import Derived.Test.YtkijoddconipoaaGreatDoorR1
import Derived.Test.YtkijoddconipoaaGreatDoorR2
import Derived.Test.YtkijoddconipoaaGreatDoorR3
import Derived.Test.YtkijoddconipoaaGreatDoorR17
namespace Go.Proofs.YtkijoddconipoaaGreatDoor
open Go Go.RowKit Tw Av
/-- a hash whose first byte is b, all others none -/
def oneH (b : UInt8) : Hsh := ⟨b :: List.replicate 31 0, by simp⟩
structure Stp14 where
  o : Bool
  f : Bool
  c : Bs
  h : Int
  t : Int
  n : Int
  r : UInt8
abbrev s14A (x : Stp14) : AV := .agg 7 [boo x.o, boo x.f, str x.c, int x.h, int x.t, int x.n, u8A x.r]
def hd14 (x : Stp14) : Hdr := ⟨if x.o = true then x.c.take 1 else [97], 1 + x.h % 32, x.t % 64, oneH (x.r &&& 1)⟩
def mac14 (x : Stp14) : Hsh := sealOf (if x.f = true then [111, 116, 104, 101, 114] else [107, 101, 121]) (hd14 x)
instance fnShort14 {s : Bs} {n : Int} : Ans Tryz.prog GL 11 [str s, int n] (0 ≤ n) (str (s.take n.toNat)) := ⟨fun hn => by
  refine spec_enter Tryz.func11 rfl Tryz.ntmps11 rfl (fun _ hs => ?_)
  repeat' (first | refine W ?_ | refine op2 ?_ | refine ob4 ?_ | refine ob2 (fun _ => ?_) | intro _ | simp only [List.set])
  refine ac_cond (fun h1 => ?_) (fun h1 => ?_)
  · repeat' (first | refine W ?_ | refine op2 ?_ | refine ob4 ?_ | refine ob2 (fun _ => ?_) | intro _ | simp only [List.set])
    refine al_sliceS 0 n.toNat ?_
    repeat' (first | refine W ?_ | refine op2 ?_ | refine ob4 ?_ | refine ob2 (fun _ => ?_) | intro _ | simp only [List.set])
    refine reE ?_
    rfl
  · repeat' (first | refine W ?_ | refine op2 ?_ | refine ob4 ?_ | refine ob2 (fun _ => ?_) | intro _ | simp only [List.set])
    refine reE ?_
    rw [List.take_of_length_le (by omega)]
    rfl⟩
instance fnStepHdr {o f : Bool} {c : Bs} {h t n : Int} {r : UInt8} : Ans Tryz.prog GL 8 [.agg 7 [boo o, boo f, str c, int h, int t, int n, u8A r]] True (hdrA (hd14 ⟨o, f, c, h, t, n, r⟩)) := ⟨fun _ => by
  have h1 := Int.emod_nonneg h (b := 32) (by omega)
  have h2 := Int.emod_lt_of_pos h (b := 32) (by omega)
  refine spec_enter Tryz.func8 rfl Tryz.ntmps8 rfl (fun _ hs => ?_)
  cases o
  · repeat' (first | refine W ?_ | refine op2 ?_ | refine ob4 ?_ | refine ob2 (fun _ => ?_) | intro _ | simp only [List.set])
    refine reE ?_
    rfl
  · repeat' (first | refine W ?_ | refine op2 ?_ | refine ob4 ?_ | refine ob2 (fun _ => ?_) | intro _ | simp only [List.set])
    refine reE ?_
    rfl⟩
theorem mac_lens (b : Bool) : (if b = true then [111, 116, 104, 101, 114] else [107, 101, 121] : Bs).length ≤ 1000000 := by cases b <;> decide
theorem upd_ok {x : Cli} {h : Hdr} {now : Int} (e : actC x now = true) (e2 : chkH h = true) (e3 : h.c = x.c) : updE x h (sealOf x.k h) now = 0 ∧ updC x h (sealOf x.k h) now = putC x (stOf h) := upd0 e e2 e3 rfl
def aC1 : Cli := ⟨[97], [107], 10, false, [⟨1, 0, zeroH⟩]⟩
def aC2 : Cli := ⟨[97], [107], 10, false, [⟨1, 0, zeroH⟩, ⟨2, 0, zeroH⟩]⟩
theorem aw1 : newR [107] 10 ⟨[97], 1, 0, zeroH⟩ = aC1 ∧ newE [107] 10 ⟨[97], 1, 0, zeroH⟩ = 0 := by
  have h : mayC (newC [107] 10 ⟨[97], 1, 0, zeroH⟩) = true := by kernel_rfl
  unfold newR newE
  rw [if_pos h, if_pos h]
  exact ⟨rfl, rfl⟩
theorem aw2 : updE aC1 ⟨[97], 2, 0, zeroH⟩ (sealOf [107] ⟨[97], 2, 0, zeroH⟩) 1 = 0 ∧ updC aC1 ⟨[97], 2, 0, zeroH⟩ (sealOf [107] ⟨[97], 2, 0, zeroH⟩) 1 = aC2 := by
  have h := upd_ok (x := aC1) (h := ⟨[97], 2, 0, zeroH⟩) (now := 1) (by kernel_rfl) (by kernel_rfl) rfl
  exact ⟨h.1, h.2.trans (by kernel_rfl)⟩
theorem aw3 : updE aC2 ⟨[97], 2, 0, zeroH⟩ (sealOf [107] ⟨[97], 2, 0, zeroH⟩) 1 = 0 ∧ updC aC2 ⟨[97], 2, 0, zeroH⟩ (sealOf [107] ⟨[97], 2, 0, zeroH⟩) 1 = aC2 := by
  have h := upd_ok (x := aC2) (h := ⟨[97], 2, 0, zeroH⟩) (now := 1) (by kernel_rfl) (by kernel_rfl) rfl
  exact ⟨h.1, h.2.trans (by kernel_rfl)⟩
theorem aw4 : updE aC2 ⟨[97], 2, 0, oneH 1⟩ (sealOf [107] ⟨[97], 2, 0, oneH 1⟩) 1 = 0 ∧ updC aC2 ⟨[97], 2, 0, oneH 1⟩ (sealOf [107] ⟨[97], 2, 0, oneH 1⟩) 1 = frz aC2 := by
  have h := upd_ok (x := aC2) (h := ⟨[97], 2, 0, oneH 1⟩) (now := 1) (by kernel_rfl) (by kernel_rfl) rfl
  exact ⟨h.1, h.2.trans (by kernel_rfl)⟩
theorem ok_aC1 : CliOk aC1 := ⟨by decide, by decide, ⟨by decide, by decide⟩, by decide, by decide⟩
theorem ok_aC2 : CliOk aC2 := ⟨by decide, by decide, ⟨by decide, by decide⟩, by decide, by decide⟩
set_option maxHeartbeats 1000000 in
instance fnAwake14 : Ans Tryz.prog GL 6 [] True (boo true) := ⟨fun _ => by
  have p1 : CliOk aC1 ∧ (2 : Int) ≤ 9223372036854775807 ∧ (0 : Int) ≤ 9223372036854775807 := ⟨ok_aC1, by decide, by decide⟩
  have p2 : CliOk aC2 ∧ (2 : Int) ≤ 9223372036854775807 ∧ (0 : Int) ≤ 9223372036854775807 := ⟨ok_aC2, by decide, by decide⟩
  refine spec_enter Tryz.func6 rfl Tryz.ntmps6 rfl (fun _ hs => ?_)
  repeat' (first | refine W ?_ | refine op2 ?_ | refine ob4 ?_ | refine ob2 (fun _ => ?_) | intro _ | simp only [List.set])
  rw [aw1.1, aw1.2]
  repeat' (first | refine W ?_ | refine op2 ?_ | refine ob4 ?_ | refine ob2 (fun _ => ?_) | intro _ | simp only [List.set])
  rw [aw2.1, aw2.2]
  repeat' (first | refine W ?_ | refine op2 ?_ | refine ob4 ?_ | refine ob2 (fun _ => ?_) | intro _ | simp only [List.set])
  rw [aw3.1, aw3.2]
  repeat' (first | refine W ?_ | refine op2 ?_ | refine ob4 ?_ | refine ob2 (fun _ => ?_) | intro _ | simp only [List.set])
  rw [show AV.agg 32 ((List.map u8A zeroH.l).set 0 (.lit (.int .u8 1))) = hA (oneH 1) from rfl]
  repeat' (first | refine W ?_ | refine op2 ?_ | refine ob4 ?_ | refine ob2 (fun _ => ?_) | intro _)
  rw [aw4.1, aw4.2]
  repeat' (first | refine W ?_ | refine op2 ?_ | refine ob4 ?_ | refine ob2 (fun _ => ?_) | intro _)
  refine reE ?_
  rfl⟩
end Go.Proofs.YtkijoddconipoaaGreatDoor
