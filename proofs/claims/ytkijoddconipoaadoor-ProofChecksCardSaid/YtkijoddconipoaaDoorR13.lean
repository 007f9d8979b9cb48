/- Law 10: what is made. -/
import Derived.Test.YtkijoddconipoaaDoorP1
import Derived.Test.YtkijoddconipoaaDoorP2
import Derived.Test.YtkijoddconipoaaDoorP3
import Derived.Test.YtkijoddconipoaaDoorP4
import Derived.Test.YtkijoddconipoaaDoorQ1
import Derived.Test.YtkijoddconipoaaDoorQ2
import Derived.Test.YtkijoddconipoaaDoorK1
import Derived.Test.YtkijoddconipoaaDoorQ3
import Derived.Test.YtkijoddconipoaaDoorQ4
import Derived.Test.YtkijoddconipoaaDoorQ5
import Derived.Test.YtkijoddconipoaaDoorQ6
import Derived.Test.YtkijoddconipoaaDoorQ7
import Derived.Test.YtkijoddconipoaaDoorQ8
import Derived.Test.YtkijoddconipoaaDoorQ10
import Derived.Test.YtkijoddconipoaaDoorR10
import Derived.Test.YtkijoddconipoaaDoorR11
import Derived.Test.YtkijoddconipoaaDoorR12
namespace Go.Proofs.YtkijoddconipoaaDoor
open Go Go.RowKit Tw Av
theorem atP_len {d : List Ent} (h : d.length ≤ 10) (i : Int) : (atP d i).p.length ≤ 10 := by
  unfold atP
  dsimp only
  rw [pathH_len]
  exact Nat.le_trans (way_len _ _) (by simpa using h)
theorem memP_len {d : List Ent} (h : d.length ≤ 10) (i : Nat) (b : Bool) : (memP d i b).p.length ≤ 10 := by
  unfold memP
  split
  · exact atP_len h _
  · simp [zeroP]
theorem absG_lens {d : List Ent} (h : d.length ≤ 10) (i : Nat) (b : Bool) : (absG d i b).a.p.length ≤ 10 ∧ (absG d i b).b.p.length ≤ 10 := by
  unfold absG
  split
  · simp [zeroG, zeroP]
  · dsimp only
    constructor
    · split
      · exact atP_len h _
      · simp [zeroP]
    · split
      · exact atP_len h _
      · simp [zeroP]
set_option maxHeartbeats 2000000 in
instance fnProofMakes {l : List Ent} {key : Bs} {xs : List AV} {id : Option Value} [hx : Ents xs l] : Ans Tryd.prog GL 16 [.sl 2 xs id, str key] True (boo true) := ⟨fun _ => by
  have h1 := hx.out
  subst h1
  refine spec_enter Tryd.func16 rfl Tryd.ntmps16 rfl (fun _ hs => ?_)
  repeat' (first | refine W ?_ | refine op2 ?_ | refine ob4 ?_ | refine ob2 (fun _ => ?_) | intro _ | simp only [List.set])
  have h3 := few10_len l
  have h4 := few10_dict l
  have h5 := few10_srt l
  generalize few10 l = f at *
  repeat' (first | refine W ?_ | refine op2 ?_ | refine ob4 ?_ | refine ob2 (fun _ => ?_) | intro _ | simp only [List.set])
  rw [h4]
  have hpre : f.length ≤ 2000 ∧ Srt f := ⟨by omega, h5⟩
  repeat' (first | refine W ?_ | refine op2 ?_ | refine ob4 ?_ | refine ob2 (fun _ => ?_) | intro _ | simp only [List.set])
  rw [(fnd_eq (k := key.take (Int.toNat 12)) h5).1, (fnd_eq (k := key.take (Int.toNat 12)) h5).2]
  have h6 := memP_len h3 (bsAt f (key.take (Int.toNat 12))) (bsIs f (key.take (Int.toNat 12)))
  have h7 := absG_lens h3 (bsAt f (key.take (Int.toNat 12))) (bsIs f (key.take (Int.toNat 12)))
  generalize memP f (bsAt f (key.take (Int.toNat 12))) (bsIs f (key.take (Int.toNat 12))) = P at *
  generalize absG f (bsAt f (key.take (Int.toNat 12))) (bsIs f (key.take (Int.toNat 12))) = G at *
  generalize bsIs f (key.take (Int.toNat 12)) = b at *
  have h8 : G.a.p.length ≤ 1073741823 ∧ G.b.p.length ≤ 1073741823 := ⟨by omega, by omega⟩
  repeat' (first | refine W ?_ | refine op2 ?_ | refine ob4 ?_ | refine ob2 (fun _ => ?_) | intro _ | simp only [List.set])
  refine reE ?_
  cases b <;> rfl⟩
end Go.Proofs.YtkijoddconipoaaDoor
