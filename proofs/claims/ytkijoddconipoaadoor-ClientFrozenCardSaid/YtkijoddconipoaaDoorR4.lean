/- Law 14: its small functions. -/
import Derived.Test.YtkijoddconipoaaDoorP1
import Derived.Test.YtkijoddconipoaaDoorP2
import Derived.Test.YtkijoddconipoaaDoorP3
import Derived.Test.YtkijoddconipoaaDoorP4
import Derived.Test.YtkijoddconipoaaDoorQ1
import Derived.Test.YtkijoddconipoaaDoorQ2
import Derived.Test.YtkijoddconipoaaDoorK1
import Derived.Test.YtkijoddconipoaaDoorQ3
import Derived.Test.YtkijoddconipoaaDoorQ5
import Derived.Test.YtkijoddconipoaaDoorR1
import Derived.Test.YtkijoddconipoaaDoorR2
import Derived.Test.YtkijoddconipoaaDoorR3
namespace Go.Proofs.YtkijoddconipoaaDoor
open Go Go.RowKit Tw Av
/-- a hash whose first byte is b, all others none -/
def oneH (b : UInt8) : Hsh := ⟨b :: List.replicate 31 0, by simp⟩
structure Stp14 where
  o : Bool
  f : Bool
  c : Bs
  h : Int
  t : Int
  n : Int
  r : UInt8
abbrev s14A (x : Stp14) : AV := .agg 7 [boo x.o, boo x.f, str x.c, int x.h, int x.t, int x.n, u8A x.r]
def hd14 (x : Stp14) : Hdr := ⟨if x.o = true then x.c.take 1 else [97], 1 + x.h % 32, x.t % 64, oneH (x.r &&& 1)⟩
def mac14 (x : Stp14) : Hsh := sealOf (if x.f = true then [111, 116, 104, 101, 114] else [107, 101, 121]) (hd14 x)
instance fnShort14 {s : Bs} {n : Int} : Ans Tryd.prog GL 94 [str s, int n] (0 ≤ n) (str (s.take n.toNat)) := ⟨fun hn => by
  refine spec_enter Tryd.func94 rfl Tryd.ntmps94 rfl (fun _ hs => ?_)
  repeat' (first | refine W ?_ | refine op2 ?_ | refine ob4 ?_ | refine ob2 (fun _ => ?_) | intro _ | simp only [List.set])
  refine ac_cond (fun h1 => ?_) (fun h1 => ?_)
  · repeat' (first | refine W ?_ | refine op2 ?_ | refine ob4 ?_ | refine ob2 (fun _ => ?_) | intro _ | simp only [List.set])
    refine al_sliceS 0 n.toNat ?_
    repeat' (first | refine W ?_ | refine op2 ?_ | refine ob4 ?_ | refine ob2 (fun _ => ?_) | intro _ | simp only [List.set])
    refine reE ?_
    rfl
  · repeat' (first | refine W ?_ | refine op2 ?_ | refine ob4 ?_ | refine ob2 (fun _ => ?_) | intro _ | simp only [List.set])
    refine reE ?_
    rw [List.take_of_length_le (by omega)]
    rfl⟩
instance fnStepHdr {o f : Bool} {c : Bs} {h t n : Int} {r : UInt8} : Ans Tryd.prog GL 40 [.agg 7 [boo o, boo f, str c, int h, int t, int n, u8A r]] True (hdrA (hd14 ⟨o, f, c, h, t, n, r⟩)) := ⟨fun _ => by
  have h1 := Int.emod_nonneg h (b := 32) (by omega)
  have h2 := Int.emod_lt_of_pos h (b := 32) (by omega)
  refine spec_enter Tryd.func40 rfl Tryd.ntmps40 rfl (fun _ hs => ?_)
  cases o
  · repeat' (first | refine W ?_ | refine op2 ?_ | refine ob4 ?_ | refine ob2 (fun _ => ?_) | intro _ | simp only [List.set])
    refine reE ?_
    rfl
  · repeat' (first | refine W ?_ | refine op2 ?_ | refine ob4 ?_ | refine ob2 (fun _ => ?_) | intro _ | simp only [List.set])
    refine reE ?_
    rfl⟩
theorem mac_lens (b : Bool) : (if b = true then [111, 116, 104, 101, 114] else [107, 101, 121] : Bs).length ≤ 1000000 := by cases b <;> decide
instance fnStepMac {o f : Bool} {c : Bs} {h t n : Int} {r : UInt8} : Ans Tryd.prog GL 46 [.agg 7 [boo o, boo f, str c, int h, int t, int n, u8A r]] True (hA (mac14 ⟨o, f, c, h, t, n, r⟩)) := ⟨fun _ => by
  have h1 := Int.emod_nonneg h (b := 32) (by omega)
  have h2 := Int.emod_lt_of_pos h (b := 32) (by omega)
  have h3 := Int.emod_nonneg t (b := 64) (by omega)
  have h4 := Int.emod_lt_of_pos t (b := 64) (by omega)
  have e1 : (hd14 ⟨o, f, c, h, t, n, r⟩).h = 1 + h % 32 := rfl
  have e2 : (hd14 ⟨o, f, c, h, t, n, r⟩).t = t % 64 := rfl
  refine spec_enter Tryd.func46 rfl Tryd.ntmps46 rfl (fun _ hs => ?_)
  cases f
  · repeat' (first | refine W ?_ | refine op2 ?_ | refine ob4 ?_ | refine ob2 (fun _ => ?_) | intro _ | simp only [List.set])
    refine reE ?_
    rfl
  · repeat' (first | refine W ?_ | refine op2 ?_ | refine ob4 ?_ | refine ob2 (fun _ => ?_) | intro _ | simp only [List.set])
    refine reE ?_
    rfl⟩
theorem upd_ok {x : Cli} {h : Hdr} {now : Int} (e : actC x now = true) (e2 : chkH h = true) (e3 : h.c = x.c) : updE x h (sealOf x.k h) now = 0 ∧ updC x h (sealOf x.k h) now = putC x (stOf h) := upd0 e e2 e3 rfl
def aC1 : Cli := ⟨[97], [107], 10, false, [⟨1, 0, zeroH⟩]⟩
def aC2 : Cli := ⟨[97], [107], 10, false, [⟨1, 0, zeroH⟩, ⟨2, 0, zeroH⟩]⟩
theorem aw1 : newR [107] 10 ⟨[97], 1, 0, zeroH⟩ = aC1 ∧ newE [107] 10 ⟨[97], 1, 0, zeroH⟩ = 0 := by
  have h : mayC (newC [107] 10 ⟨[97], 1, 0, zeroH⟩) = true := by kernel_rfl
  unfold newR newE
  rw [if_pos h, if_pos h]
  exact ⟨rfl, rfl⟩
theorem aw2 : updE aC1 ⟨[97], 2, 0, zeroH⟩ (sealOf [107] ⟨[97], 2, 0, zeroH⟩) 1 = 0 ∧ updC aC1 ⟨[97], 2, 0, zeroH⟩ (sealOf [107] ⟨[97], 2, 0, zeroH⟩) 1 = aC2 := by
  have h := upd_ok (x := aC1) (h := ⟨[97], 2, 0, zeroH⟩) (now := 1) (by kernel_rfl) (by kernel_rfl) rfl
  exact ⟨h.1, h.2.trans (by kernel_rfl)⟩
theorem aw3 : updE aC2 ⟨[97], 2, 0, zeroH⟩ (sealOf [107] ⟨[97], 2, 0, zeroH⟩) 1 = 0 ∧ updC aC2 ⟨[97], 2, 0, zeroH⟩ (sealOf [107] ⟨[97], 2, 0, zeroH⟩) 1 = aC2 := by
  have h := upd_ok (x := aC2) (h := ⟨[97], 2, 0, zeroH⟩) (now := 1) (by kernel_rfl) (by kernel_rfl) rfl
  exact ⟨h.1, h.2.trans (by kernel_rfl)⟩
theorem aw4 : updE aC2 ⟨[97], 2, 0, oneH 1⟩ (sealOf [107] ⟨[97], 2, 0, oneH 1⟩) 1 = 0 ∧ updC aC2 ⟨[97], 2, 0, oneH 1⟩ (sealOf [107] ⟨[97], 2, 0, oneH 1⟩) 1 = frz aC2 := by
  have h := upd_ok (x := aC2) (h := ⟨[97], 2, 0, oneH 1⟩) (now := 1) (by kernel_rfl) (by kernel_rfl) rfl
  exact ⟨h.1, h.2.trans (by kernel_rfl)⟩
theorem ok_aC1 : CliOk aC1 := ⟨by decide, by decide, ⟨by decide, by decide⟩, by decide, by decide⟩
theorem ok_aC2 : CliOk aC2 := ⟨by decide, by decide, ⟨by decide, by decide⟩, by decide, by decide⟩
set_option maxHeartbeats 1000000 in
instance fnAwake14 : Ans Tryd.prog GL 37 [] True (boo true) := ⟨fun _ => by
  have p1 : CliOk aC1 ∧ (2 : Int) ≤ 9223372036854775807 ∧ (0 : Int) ≤ 9223372036854775807 := ⟨ok_aC1, by decide, by decide⟩
  have p2 : CliOk aC2 ∧ (2 : Int) ≤ 9223372036854775807 ∧ (0 : Int) ≤ 9223372036854775807 := ⟨ok_aC2, by decide, by decide⟩
  refine spec_enter Tryd.func37 rfl Tryd.ntmps37 rfl (fun _ hs => ?_)
  repeat' (first | refine W ?_ | refine op2 ?_ | refine ob4 ?_ | refine ob2 (fun _ => ?_) | intro _ | simp only [List.set])
  rw [aw1.1, aw1.2]
  repeat' (first | refine W ?_ | refine op2 ?_ | refine ob4 ?_ | refine ob2 (fun _ => ?_) | intro _ | simp only [List.set])
  rw [aw2.1, aw2.2]
  repeat' (first | refine W ?_ | refine op2 ?_ | refine ob4 ?_ | refine ob2 (fun _ => ?_) | intro _ | simp only [List.set])
  rw [aw3.1, aw3.2]
  repeat' (first | refine W ?_ | refine op2 ?_ | refine ob4 ?_ | refine ob2 (fun _ => ?_) | intro _ | simp only [List.set])
  rw [show AV.agg 32 ((List.map u8A zeroH.l).set 0 (.lit (.int .u8 1))) = hA (oneH 1) from rfl]
  repeat' (first | refine W ?_ | refine op2 ?_ | refine ob4 ?_ | refine ob2 (fun _ => ?_) | intro _)
  rw [aw4.1, aw4.2]
  repeat' (first | refine W ?_ | refine op2 ?_ | refine ob4 ?_ | refine ob2 (fun _ => ?_) | intro _)
  refine reE ?_
  rfl⟩
end Go.Proofs.YtkijoddconipoaaDoor
