/- Law 10: bytes. -/
import Derived.Test.YtkijoddconipoaaGreatDoorP1
import Derived.Test.YtkijoddconipoaaGreatDoorP2
import Derived.Test.YtkijoddconipoaaGreatDoorP3
import Derived.Test.YtkijoddconipoaaGreatDoorP4
import Derived.Test.YtkijoddconipoaaGreatDoorP5
import Derived.Test.YtkijoddconipoaaGreatDoorQ1
import Derived.Test.YtkijoddconipoaaGreatDoorQ2
import Derived.Test.YtkijoddconipoaaGreatDoorK1
import Derived.Test.YtkijoddconipoaaGreatDoorQ3
import Derived.Test.YtkijoddconipoaaGreatDoorQ4
import Derived.Test.YtkijoddconipoaaGreatDoorQ5
import Derived.Test.YtkijoddconipoaaGreatDoorQ13
import Derived.Test.YtkijoddconipoaaGreatDoorQ14
import Derived.Test.YtkijoddconipoaaGreatDoorQ6
import Derived.Test.YtkijoddconipoaaGreatDoorQ7
import Derived.Test.YtkijoddconipoaaGreatDoorQ8
import Derived.Test.YtkijoddconipoaaGreatDoorQ10
import Derived.Test.YtkijoddconipoaaGreatDoorR10
import Derived.Test.YtkijoddconipoaaGreatDoorR11
import Derived.Test.YtkijoddconipoaaGreatDoorR12
import Derived.Test.YtkijoddconipoaaGreatDoorR19
import Derived.Test.YtkijoddconipoaaGreatDoorR13
import Derived.Test.YtkijoddconipoaaGreatDoorR14
import Derived.Test.YtkijoddconipoaaGreatDoorR15
import Derived.Test.YtkijoddconipoaaGreatDoorR16
namespace Go.Proofs.YtkijoddconipoaaGreatDoor
open Go Go.RowKit Tw Av
theorem rpdV_len (s : Bs) : (rpdV s).p.length ≤ 1073741823 := by
  unfold rpdV
  split
  · have hn := raL_len' (c := 112) (many := 16) (most := 32) (s := rpS2 s) (b := rpB2 s) (by decide)
    rw [ri5] at hn
    simp only [rpV, List.length_map]
    omega
  · decide
theorem sdP_len (s : Bs) (b : Bool) : (sdP s b).p.length ≤ 1073741823 := by
  unfold sdP
  split
  · exact rpdV_len _
  · decide
theorem rgdV_len (s : Bs) : (rgdV s).a.p.length ≤ 1073741823 ∧ (rgdV s).b.p.length ≤ 1073741823 := by
  unfold rgdV
  split
  · exact ⟨sdP_len _ _, sdP_len _ _⟩
  · decide
set_option maxHeartbeats 4000000 in
instance fnProofBytes {l : List Ent} {s key : Bs} {own oth : Bool} {k1 a1 k2 a2 drop : Int} {t1 t2 : UInt8} {xs : List AV} {id : Option Value} [hx : Ents xs l] : Ans Tryz.prog GL 4 [.sl 2 xs id, .agg 10 [str key, boo own, boo oth, chgA ⟨k1, a1, t1⟩, chgA ⟨k2, a2, t2⟩, int drop], str s]
    (((-9223372036854775808 ≤ k1 ∧ k1 ≤ 9223372036854775807) ∧ -9223372036854775808 ≤ a1 ∧ a1 ≤ 9223372036854775807) ∧ (-9223372036854775808 ≤ k2 ∧ k2 ≤ 9223372036854775807) ∧ -9223372036854775808 ≤ a2 ∧ a2 ≤ 9223372036854775807) (boo true) := ⟨fun hpre => by
  have h1 := hx.out
  subst h1
  refine spec_enter Tryz.func4 rfl Tryz.ntmps4 rfl (fun _ hs => ?_)
  repeat' (first | refine W ?_ | refine op2 ?_ | refine ob4 ?_ | refine ob2 (fun _ => ?_) | intro _ | simp only [List.set])
  have h3 := few10_len l
  have h5 := few10_srt l
  generalize few10 l = f at *
  have hm : (f.map entA).length = f.length := List.length_map _
  have hpre2 : f.length ≤ 2000 ∧ Srt f := ⟨by omega, h5⟩
  repeat' (first | refine W ?_ | refine op2 ?_ | refine ob4 ?_ | refine ob2 (fun _ => ?_) | intro _ | simp only [List.set])
  have hle := fndAt_le f (key.take (Int.toNat 12))
  generalize hK : key.take (Int.toNat 12) = K at *
  obtain ⟨p1, p2, p3⟩ := memP_pb (i := fndAt f K) (b := fndIs f K) h3 hle
  generalize memP f (fndAt f K) (fndIs f K) = P at *
  repeat' (first | refine W ?_ | refine op2 ?_ | refine ob4 ?_ | refine ob2 (fun _ => ?_) | intro _ | simp only [List.set])
  have hG := absG_gb (n := fndAt f K) (b := fndIs f K) h3 hle
  generalize absG f (fndAt f K) (fndIs f K) = G at *
  obtain ⟨⟨q1, q2⟩, q3, q4, hA, hB⟩ := hG
  obtain ⟨hPa, hPb, hPc⟩ := chP_pb (c := ⟨k1, a1, t1⟩) ⟨p1, p2, p3⟩ (by decide)
  generalize chP ⟨k1, a1, t1⟩ ⟨P.a, P.m, P.p⟩ = P2 at *
  obtain ⟨b1, b2, b3⟩ := hA
  obtain ⟨b4, b5, b6⟩ := hB
  have hsl : (s.take (Int.toNat 300)).length ≤ 1000000000 := by simp; omega
  have r1 := rpdV_len (s.take (Int.toNat 300))
  have r2 := rgdV_len (s.take (Int.toNat 300))
  repeat' (first | refine W ?_ | refine op2 ?_ | refine ob4 ?_ | refine ob2 (fun _ => ?_) | intro _ | simp only [List.set])
  obtain ⟨d1, d2, d3⟩ := chP_pb (c := ⟨k2, a2, t2⟩) ⟨b4, b5, b6⟩ (by decide)
  generalize chP ⟨k2, a2, t2⟩ ⟨G.b.a, G.b.m, G.b.p⟩ = GB at *
  have hw : GapW ⟨G.n, G.l, G.r, ⟨G.a.a, G.a.m, G.a.p⟩, ⟨GB.a, GB.m, GB.p⟩⟩ := ⟨by dsimp only; omega, by dsimp only; omega, by dsimp only; omega⟩
  repeat' (first | refine W ?_ | refine op2 ?_ | refine ob4 ?_ | refine ob2 (fun _ => ?_) | intro _ | simp only [List.set])
  refine reE ?_
  rfl⟩
end Go.Proofs.YtkijoddconipoaaGreatDoor
