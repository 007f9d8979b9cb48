/- The builder, the program's reader, walked. -/
import Derived.Test.YtkijoddconipoaaGreatDoorP1
import Derived.Test.YtkijoddconipoaaGreatDoorP2
import Derived.Test.YtkijoddconipoaaGreatDoorP3
import Derived.Test.YtkijoddconipoaaGreatDoorP4
import Derived.Test.YtkijoddconipoaaGreatDoorP5
import Derived.Test.YtkijoddconipoaaGreatDoorQ1
import Derived.Test.YtkijoddconipoaaGreatDoorQ2
import Derived.Test.YtkijoddconipoaaGreatDoorK1
import Derived.Test.YtkijoddconipoaaGreatDoorQ3
import Derived.Test.YtkijoddconipoaaGreatDoorQ4
import Derived.Test.YtkijoddconipoaaGreatDoorQ5
namespace Go.Proofs.YtkijoddconipoaaGreatDoor
open Go Go.RowKit Tw Av
theorem tUB : Tryz.prog.underlying 140 = some (.pointer 142) := by kernel_rfl
theorem tUU : Tryz.prog.underlying 192 = some .unsafePointer := by kernel_rfl
theorem tUS : (Tryz.prog.info? 142).map (·.size) = some 2 := by kernel_rfl
theorem tUL : liesAt Tryz.prog Tryz.prog.depth 142 (2 / Tryz.prog.cellsOf 142) 0 142 1 = true := by kernel_rfl
theorem tUP : Tryz.prog.underlying 168 = some (.pointer 5) := by kernel_rfl
theorem tUC : Tryz.prog.cellsOf 5 = 1 := by kernel_rfl
/-- a builder that holds l: its variable, and what it owns -/
def Bld (g : Nat) (l : Bs) (m : List Av.Piece) : Prop := ∃ p : Option Addr, (p = none ∨ p = some ⟨g, 0, none⟩) ∧ ((l = [] ∧ m = [.var g 142 (.agg 2 [.lit (.pointer p), nils])]) ∨
  ∃ g' c, l ≠ [] ∧ l.length ≤ c ∧ m = [.var g 142 (.agg 2 [.lit (.pointer p), .lit (.slice (some ⟨g', 0, none⟩) l.length c)]), .buf g' 5 1 (bytA l) c])
theorem ccheck {g : Nat} {p : Option Addr} {v : AV} (hp : p = none ∨ p = some ⟨g, 0, none⟩) (hv : v.size = 1) : Av.Spec Tryz.prog GL 128 [ptr g] [.var g 142 (.agg 2 [.lit (.pointer p), v])] fun u m => u = .tup [] ∧ m = [.var g 142 (.agg 2 [ptr g, v])] := by
  obtain ⟨j, hj, hjs⟩ := Option.map_eq_some_iff.1 tUS
  refine spec_enter Tryz.func128 rfl Tryz.ntmps128 rfl (fun _ hs => ?_)
  rcases hp with rfl | rfl
  · repeat' (first | refine W ?_ | refine op2 ?_ | refine ob4 ?_ | refine ob2 (fun _ => ?_) | intro _ | simp only [List.set])
    refine al_toUnsafe (n := 2) tUB tUU hj (by rw [hjs]; decide) (by decide) ?_
    apply al_ext (v := ptr g) (en := Extern.AbiNoEscape.same) Tryz.func150; kernel_rfl; exact rfl; kernel_rfl; kernel_rfl; exact rfl; exact rfl; exact rfl
    focus
      intro ok w cs _ hv
      obtain ⟨u1, us, rfl, h1, rfl⟩ := hv
      exact ⟨u1, rfl, RV.of0 h1⟩
    refine al_fromUnsafe (n := 2) tUU tUB hj tUL ?_
    repeat' (first | refine W ?_ | refine op2 ?_ | refine ob4 ?_ | refine ob2 (fun _ => ?_) | intro _ | simp only [List.set])
    exact reN _ ⟨rfl, rfl⟩ (List.Sublist.refl _)
  · repeat' (first | refine W ?_ | refine op2 ?_ | refine ob4 ?_ | refine ob2 (fun _ => ?_) | intro _ | simp only [List.set])
    refine al_ptrSame tUB hj ?_
    repeat' (first | refine W ?_ | refine op2 ?_ | refine ob4 ?_ | refine ob2 (fun _ => ?_) | intro _ | simp only [List.set])
    exact reN _ ⟨rfl, rfl⟩ (List.Sublist.refl _)
theorem bwrite {g : Nat} {l a : Bs} {m : List Av.Piece} (hb : Bld g l m) (hl : l.length + a.length ≤ 140737488355328) : Av.Spec Tryz.prog GL 103 [ptr g, str a] m fun u m => u = .tup [int a.length, .lit .nilIface] ∧ Bld g (l ++ a) m := by
  obtain ⟨p, hp, ⟨rfl, rfl⟩ | ⟨g', c, h0, hc, rfl⟩⟩ := hb
  · refine spec_enter Tryz.func103 rfl Tryz.ntmps103 rfl (fun _ hs => ?_)
    repeat' (first | refine W ?_ | refine op2 ?_ | refine ob4 ?_ | refine ob2 (fun _ => ?_) | intro _ | simp only [List.set])
    refine al_callK (args := [ptr g]) [.var g 142 (.agg 2 [.lit (.pointer p), nils])] [] (by rw [hs]; exact ccheck hp rfl) (fun u m1 hh => ?_) (List.Perm.refl _)
    obtain ⟨rfl, rfl⟩ := hh
    rcases a with _ | ⟨x, a⟩
    focus
      repeat' (first | refine W ?_ | refine op2 ?_ | refine ob4 ?_ | refine ob2 (fun _ => ?_) | intro _ | simp only [List.set])
      refine al_appendNE ?_
      repeat' (first | refine W ?_ | refine op2 ?_ | refine ob4 ?_ | refine ob2 (fun _ => ?_) | intro _ | simp only [List.set])
      exact reK _ ⟨rfl, _, .inr rfl, .inl ⟨rfl, rfl⟩⟩ (List.Sublist.refl _)
    focus
      have hl2 : (x :: a).length = a.length + 1 := rfl
      have hl1 : ([] : Bs).length = 0 := rfl
      repeat' (first | refine W ?_ | refine op2 ?_ | refine ob4 ?_ | refine ob2 (fun _ => ?_) | intro _ | simp only [List.set])
      refine al_appendNS (fun g' c' hc' => ?_)
      repeat' (first | refine W ?_ | refine op2 ?_ | refine ob4 ?_ | refine ob2 (fun _ => ?_) | intro _ | simp only [List.set])
      refine ae_st (fun ok w h => h.perm (List.Perm.swap _ _ _)) ?_
      refine reK _ ⟨rfl, _, .inr rfl, .inr ⟨g', c', by simp, hc', rfl⟩⟩ (List.Sublist.refl _)
  · refine spec_enter Tryz.func103 rfl Tryz.ntmps103 rfl (fun _ hs => ?_)
    repeat' (first | refine W ?_ | refine op2 ?_ | refine ob4 ?_ | refine ob2 (fun _ => ?_) | intro _ | simp only [List.set])
    refine al_callK (args := [ptr g]) [.var g 142 (.agg 2 [.lit (.pointer p), .lit (.slice (some ⟨g', 0, none⟩) l.length c)])] [.buf g' 5 1 (bytA l) c] (by rw [hs]; exact ccheck hp rfl) (fun u m1 hh => ?_) (List.Perm.refl _)
    obtain ⟨rfl, rfl⟩ := hh
    have hbl := bytA_len l
    repeat' (first | refine W ?_ | refine op2 ?_ | refine ob4 ?_ | refine ob2 (fun _ => ?_) | intro _ | simp only [List.set])
    refine al_appendBS (fun g' c' hc' => ?_)
    repeat' (first | refine W ?_ | refine op2 ?_ | refine ob4 ?_ | refine ob2 (fun _ => ?_) | intro _ | simp only [List.set])
    refine reK _ ⟨rfl, _, .inr rfl, .inr ⟨g', c', by simp [h0], by simpa using hc', ?_⟩⟩ (List.Sublist.refl _)
    rw [List.length_append, show bytA (l ++ a) = bytA l ++ bytA a from List.map_append]
theorem bstring {g : Nat} {l : Bs} {m : List Av.Piece} (hb : Bld g l m) (hl : l.length ≤ 140737488355328) : Av.Spec Tryz.prog GL 104 [ptr g] m fun u _ => u = str l := by
  obtain ⟨p, hp, ⟨rfl, rfl⟩ | ⟨g', c, h0, hc, rfl⟩⟩ := hb
  · refine spec_enter Tryz.func104 rfl Tryz.ntmps104 rfl (fun _ hs => ?_)
    repeat' (first | refine W ?_ | refine op2 ?_ | refine ob4 ?_ | refine ob2 (fun _ => ?_) | intro _ | simp only [List.set])
    apply obl_read []; exact rfl; exact rfl; kernel_rfl; intro _ _
    refine al_sliceDataN ?_
    exact al_nil (ae_got rfl rfl)
    repeat' (first | refine W ?_ | refine op2 ?_ | refine ob4 ?_ | refine ob2 (fun _ => ?_) | intro _ | simp only [List.set])
    apply obl_read []; exact rfl; exact rfl; kernel_rfl; intro _ _
    refine al_unsafeStrN ?_
    exact al_nil (ae_got rfl rfl)
    repeat' (first | refine W ?_ | refine op2 ?_ | refine ob4 ?_ | refine ob2 (fun _ => ?_) | intro _ | simp only [List.set])
    exact reK [] rfl (List.nil_sublist _)
  · refine spec_enter Tryz.func104 rfl Tryz.ntmps104 rfl (fun _ hs => ?_)
    have hc0 : c ≠ 0 := by
      have := List.length_pos_iff.2 h0
      omega
    repeat' (first | refine W ?_ | refine op2 ?_ | refine ob4 ?_ | refine ob2 (fun _ => ?_) | intro _ | simp only [List.set])
    apply obl_read []; exact rfl; exact rfl; kernel_rfl; intro _ _
    refine al_sliceData (c := c) ?_ hc0
    exact al_nil (ae_got rfl rfl)
    repeat' (first | refine W ?_ | refine op2 ?_ | refine ob4 ?_ | refine ob2 (fun _ => ?_) | intro _ | simp only [List.set])
    apply obl_write [1]; exact rfl; exact rfl; kernel_rfl
    focus
      intro _ _
      refine al_unsafeStr (l := l) (c := c) tUP tUC h0 ?_
      exact al_nil (ae_got rfl rfl)
    focus
      exact rfl
    focus
      exact rfl
    repeat' (first | refine W ?_ | refine op2 ?_ | refine ob4 ?_ | refine ob2 (fun _ => ?_) | intro _ | simp only [List.set])
    exact reK [] rfl (List.nil_sublist _)
end Go.Proofs.YtkijoddconipoaaGreatDoor

namespace Go.Proofs.YtkijoddconipoaaGreatDoor
open Go Go.RowKit Tw Av
def len3 (a b c : UInt8) : Nat := (a.toNat * 256 + b.toNat) * 256 + c.toNat
theorem len3_lt (a b c : UInt8) : len3 a b c < 16777216 := by
  have h1 := a.toNat_lt
  have h2 := b.toNat_lt
  have h3 := c.toNat_lt
  unfold len3
  omega
/-- a field taken off a text -/
def cutT (c most : Int) (b : Bool) : Bs → Option (Bs × Bs)
  | s0 :: s1 :: s2 :: s3 :: r => if b = false ∧ (s0.toNat : Int) = c ∧ (len3 s1 s2 s3 : Int) ≤ most ∧ len3 s1 s2 s3 ≤ r.length then some (r.take (len3 s1 s2 s3), r.drop (len3 s1 s2 s3)) else none
  | _ => none
def rtT (c most : Int) (s : Bs) (b : Bool) : Bs := ((cutT c most b s).map (·.1)).getD []
def rsT (c most : Int) (s : Bs) (b : Bool) : Bs := ((cutT c most b s).map (·.2)).getD s
def rbT (c most : Int) (s : Bs) (b : Bool) : Bool := (cutT c most b s).isNone
def numOf (l : Bs) : Nat := l.foldl (fun n c => n * 256 + c.toNat) 0
def lead0 (l : Bs) : Bool := decide (l.head? = some 0)
def rnN (c : Int) (s : Bs) (b : Bool) : Nat := if lead0 (rtT c 8 s b) = true then 0 else numOf (rtT c 8 s b)
def rnB (c : Int) (s : Bs) (b : Bool) : Bool := rbT c 8 s b || lead0 (rtT c 8 s b)
def riI (c most : Int) (s : Bs) (b : Bool) : Int := if most < (rnN c s b : Int) then 0 else rnN c s b
def riB (c most : Int) (s : Bs) (b : Bool) : Bool := rnB c s b || decide (most < (rnN c s b : Int))
/-- fields taken off till none is left, or one is bad -/
def bods (c most : Int) : Nat → Bs → Bool → List Bs × Bool
  | 0, _, b => ([], b)
  | f + 1, s, b => if b = true ∨ s = [] then ([], b) else (rtT c most s b :: (bods c most f (rsT c most s b) (rbT c most s b)).1, (bods c most f (rsT c most s b) (rbT c most s b)).2)
def allX (c most : Int) (x : Bs) : List Bs × Bool := bods c most (x.length + 1) x false
def badA (b1 : Bool) (r : List Bs × Bool) (many : Int) : Bool := b1 || (r.2 || decide (many < (r.1.length : Int)))
def outA (b1 : Bool) (r : List Bs × Bool) (many : Int) : List Bs := if badA b1 r many = true then [] else r.1
def raB (c many most : Int) (s : Bs) (b : Bool) : Bool := badA (rbT c 16777215 s b) (allX c most (rtT c 16777215 s b)) many
def raL (c many most : Int) (s : Bs) (b : Bool) : List Bs := outA (rbT c 16777215 s b) (allX c most (rtT c 16777215 s b)) many
def reE' (s : Bs) (b : Bool) : Int := if b = true ∨ s ≠ [] then 10 else 0
abbrev rdA (s : Bs) (b : Bool) : AV := .agg 2 [str s, boo b]
theorem rsT_len (c most : Int) (s : Bs) (b : Bool) : (rsT c most s b).length ≤ s.length ∧ (rtT c most s b).length ≤ s.length := by
  unfold rsT rtT cutT
  split
  · split
    · simp
      omega
    · simp
  · simp
theorem rtT_len (c most : Int) (s : Bs) (b : Bool) : (rtT c most s b).length < 16777216 ∧ (0 ≤ most → ((rtT c most s b).length : Int) ≤ most) := by
  unfold rtT cutT
  split
  · rename_i s0 s1 s2 s3 r
    have := len3_lt s1 s2 s3
    split
    · rename_i h
      simp
      omega
    · simp
  · simp
theorem rsT_dec {c most : Int} {s : Bs} {b : Bool} (h : rbT c most s b = false) : (rsT c most s b).length < s.length := by
  unfold rbT rsT cutT at *
  split at h
  · split
    · simp
      omega
    · rename_i h1
      rw [if_neg h1] at h
      simp at h
  · simp at h
theorem rbT_bad (c most : Int) (s : Bs) : cutT c most true s = none := by
  unfold cutT
  split
  · rw [if_neg (by simp)]
  · rfl
theorem rbT_nil (c most : Int) (b : Bool) : cutT c most b [] = none := rfl
theorem numOf_snoc (l : Bs) (c : UInt8) : numOf (l ++ [c]) = numOf l * 256 + c.toNat := by simp [numOf]
theorem numOf_lt : ∀ (n : Nat) (l : Bs), l.length = n → numOf l < 256 ^ n
  | 0, l, h => by
    rw [List.eq_nil_of_length_eq_zero h]
    decide
  | n + 1, l, h => by
    have hne : l ≠ [] := by rintro rfl; simp at h
    rw [← List.dropLast_concat_getLast hne, numOf_snoc]
    have h1 := numOf_lt n l.dropLast (by simp [h])
    have h2 := (l.getLast hne).toNat_lt
    rw [Nat.pow_succ]
    omega
theorem numOf_take {l : Bs} {i : Nat} (h : i < l.length) : numOf (l.take (i + 1)) = numOf (l.take i) * 256 + l[i].toNat := by
  rw [List.take_succ_eq_append_getElem h, numOf_snoc]
theorem numOf_small {l : Bs} (h : l.length ≤ 8) : numOf l < 18446744073709551616 := by
  have h1 := numOf_lt _ l rfl
  have h2 : 256 ^ l.length ≤ 256 ^ 8 := Nat.pow_le_pow_right (by decide) h
  omega
/-! digits and back -/
theorem lead0_cons (a : UInt8) (l : Bs) : lead0 (a :: l) = decide (a = 0) := by simp [lead0]
theorem numOf_zero : ∀ (n : Nat) (l : Bs), l.length = n → lead0 l = false → numOf l = 0 → l = []
  | 0, l, h, _, _ => List.eq_nil_of_length_eq_zero h
  | n + 1, l, h, h1, h2 => by
    have hne : l ≠ [] := by rintro rfl; simp at h
    rw [← List.dropLast_concat_getLast hne, numOf_snoc] at h2
    rw [← List.dropLast_concat_getLast hne] at h1
    have h3 : numOf l.dropLast = 0 := by omega
    have h4 : (l.getLast hne).toNat = 0 := by omega
    have h5 : l.getLast hne = 0 := UInt8.toNat.inj h4
    cases hd : l.dropLast with
    | nil =>
      rw [hd, h5] at h1
      simp [lead0] at h1
    | cons a r =>
      have h6 := numOf_zero n l.dropLast (by simp [h]) (by rw [hd]; rw [hd] at h1; simpa [lead0] using h1) h3
      rw [hd] at h6
      cases h6
theorem digits_of : ∀ (f : Nat) (l : Bs), l.length ≤ f → lead0 l = false → digitsF f (numOf l) = l
  | 0, l, h, _ => by
    rw [List.eq_nil_of_length_eq_zero (by omega : l.length = 0)]
    rfl
  | f + 1, l, h, h1 => by
    by_cases hne : l = []
    · subst hne
      rfl
    · have hnz : numOf l ≠ 0 := fun h0 => hne (numOf_zero _ l rfl h1 h0)
      have e := List.dropLast_concat_getLast hne
      have h2 := (l.getLast hne).toNat_lt
      have e1 : numOf l = numOf l.dropLast * 256 + (l.getLast hne).toNat := by rw [← numOf_snoc, e]
      rw [digitsF, if_neg hnz, show numOf l / 256 = numOf l.dropLast by omega]
      rw [digits_of f l.dropLast (by simp; omega) (by
        cases hd : l.dropLast with
        | nil => rfl
        | cons a r => rw [← e, hd] at h1; simpa [lead0] using h1)]
      have h3 : UInt8.ofNat (numOf l) = l.getLast hne := by
        apply UInt8.toNat.inj
        rw [UInt8.toNat_ofNat', e1]
        omega
      rw [h3, e]
theorem digits_lead : ∀ (f n : Nat), n < 256 ^ f → lead0 (digitsF f n) = false
  | 0, n, _ => rfl
  | f + 1, n, h => by
    rw [digitsF]
    split
    · rfl
    · rename_i hn
      have h1 := digits_lead f (n / 256) (by rw [Nat.pow_succ] at h; omega)
      cases hd : digitsF f (n / 256) with
      | nil =>
        have h2 : n / 256 = 0 := by
          cases f with
          | zero => simp at h; omega
          | succ f =>
            rw [digitsF] at hd
            split at hd
            · assumption
            · simp at hd
        rw [List.nil_append, lead0_cons]
        refine decide_eq_false fun h0 => hn ?_
        have := congrArg UInt8.toNat h0
        rw [UInt8.toNat_ofNat'] at this
        simp at this
        omega
      | cons a r =>
        rw [hd] at h1
        rw [List.cons_append, lead0_cons]
        rw [lead0_cons] at h1
        exact h1
theorem digits_num {l : Bs} (h : l.length ≤ 8) : (digits (numOf l) = l) ↔ lead0 l = false := by
  constructor
  · intro e
    rw [← e]
    exact digits_lead 8 _ (by have := numOf_small h; simpa using this)
  · intro h1
    exact digits_of 8 l h h1
end Go.Proofs.YtkijoddconipoaaGreatDoor

namespace Go.Proofs.YtkijoddconipoaaGreatDoor
open Go Go.RowKit Tw Av
theorem tlvRead {s : Bs} : Av.Spec Tryz.prog GL 45 [str s] [] fun u m => ∃ g, u = ptr g ∧ m = [.var g 130 (rdA s false)] := by
  refine spec_enter Tryz.func45 rfl Tryz.ntmps45 rfl (fun _ hs => ?_)
  repeat' (first | refine W ?_ | refine op2 ?_ | refine ob4 ?_ | refine ob2 (fun _ => ?_) | intro _ | simp only [List.set])
  exact reK _ ⟨_, rfl, rfl⟩ (List.Sublist.refl _)
instance rdGood {g : Nat} {s : Bs} {b : Bool} : AnsM Tryz.prog GL 97 g [] 130 (rdA s b) True (boo (!b)) (rdA s b) := ⟨fun _ => by
  refine spec_enter Tryz.func97 rfl Tryz.ntmps97 rfl (fun _ hs => ?_)
  repeat' (first | refine W ?_ | refine op2 ?_ | refine ob4 ?_ | refine ob2 (fun _ => ?_) | intro _ | simp only [List.set])
  exact reK _ ⟨rfl, rfl⟩ (List.Sublist.refl _)⟩
instance rdFails {g : Nat} {s : Bs} {b : Bool} : AnsM Tryz.prog GL 94 g [] 130 (rdA s b) True (.tup []) (rdA s true) := ⟨fun _ => by
  refine spec_enter Tryz.func94 rfl Tryz.ntmps94 rfl (fun _ hs => ?_)
  repeat' (first | refine W ?_ | refine op2 ?_ | refine ob4 ?_ | refine ob2 (fun _ => ?_) | intro _ | simp only [List.set])
  exact reN _ ⟨rfl, rfl⟩ (List.Sublist.refl _)⟩
def nextC (s : Bs) (b : Bool) : UInt8 := if b = true then 0 else s.headD 0
def nextIs (s : Bs) (b : Bool) : Bool := !b && decide (s ≠ [])
instance rdNext {g : Nat} {s : Bs} {b : Bool} : AnsM Tryz.prog GL 93 g [] 130 (rdA s b) True (.tup [u8A (nextC s b), boo (nextIs s b)]) (rdA s b) := ⟨fun _ => by
  refine spec_enter Tryz.func93 rfl Tryz.ntmps93 rfl (fun _ hs => ?_)
  cases b
  · cases s with
    | nil =>
      repeat' (first | refine W ?_ | refine op2 ?_ | refine op6 ?_ | refine ob4 ?_ | refine ob6 ?_ | refine ob2 (fun _ => ?_) | intro _ | simp only [List.set] | refine gdT ?_ | refine gdF ?_ | refine cdT ?_ | refine cdF ?_ | fail)
      exact reK _ ⟨rfl, rfl⟩ (List.Sublist.refl _)
    | cons c s =>
      repeat' (first | refine W ?_ | refine op2 ?_ | refine op6 ?_ | refine ob4 ?_ | refine ob6 ?_ | refine ob2 (fun _ => ?_) | intro _ | simp only [List.set] | refine gdT ?_ | refine gdF ?_ | refine cdT ?_ | refine cdF ?_ | fail)
      exact reK _ ⟨rfl, rfl⟩ (List.Sublist.refl _)
  · repeat' (first | refine W ?_ | refine op2 ?_ | refine op6 ?_ | refine ob4 ?_ | refine ob6 ?_ | refine ob2 (fun _ => ?_) | intro _ | simp only [List.set] | refine gdT ?_ | refine gdF ?_ | refine cdT ?_ | refine cdF ?_ | fail)
    exact reK _ ⟨rfl, rfl⟩ (List.Sublist.refl _)⟩
instance rdLeft {g : Nat} {s : Bs} {b : Bool} : AnsM Tryz.prog GL 98 g [] 130 (rdA s b) True (int (if b = true then 0 else s.length : Nat)) (rdA s b) := ⟨fun _ => by
  refine spec_enter Tryz.func98 rfl Tryz.ntmps98 rfl (fun _ hs => ?_)
  cases b
  · repeat' (first | refine W ?_ | refine op2 ?_ | refine op6 ?_ | refine ob4 ?_ | refine ob6 ?_ | refine ob2 (fun _ => ?_) | intro _ | simp only [List.set] | refine gdT ?_ | refine gdF ?_ | refine cdT ?_ | refine cdF ?_ | fail)
    exact reK _ ⟨rfl, rfl⟩ (List.Sublist.refl _)
  · repeat' (first | refine W ?_ | refine op2 ?_ | refine op6 ?_ | refine ob4 ?_ | refine ob6 ?_ | refine ob2 (fun _ => ?_) | intro _ | simp only [List.set] | refine gdT ?_ | refine gdF ?_ | refine cdT ?_ | refine cdF ?_ | fail)
    exact reK _ ⟨rfl, rfl⟩ (List.Sublist.refl _)⟩
instance rdEnd {g : Nat} {s : Bs} {b : Bool} : AnsM Tryz.prog GL 51 g [] 130 (rdA s b) True (int (reE' s b)) (rdA s b) := ⟨fun _ => by
  refine spec_enter Tryz.func51 rfl Tryz.ntmps51 rfl (fun _ hs => ?_)
  cases b
  · cases s with
    | nil =>
      repeat' (first | refine W ?_ | refine op2 ?_ | refine op6 ?_ | refine ob4 ?_ | refine ob6 ?_ | refine ob2 (fun _ => ?_) | intro _ | simp only [List.set] | refine gdT ?_ | refine gdF ?_ | refine cdT ?_ | refine cdF ?_ | fail)
      exact reK _ ⟨rfl, rfl⟩ (List.Sublist.refl _)
    | cons c s =>
      repeat' (first | refine W ?_ | refine op2 ?_ | refine op6 ?_ | refine ob4 ?_ | refine ob6 ?_ | refine ob2 (fun _ => ?_) | intro _ | simp only [List.set] | refine gdT ?_ | refine gdF ?_ | refine cdT ?_ | refine cdF ?_ | fail)
      exact reK _ ⟨rfl, rfl⟩ (List.Sublist.refl _)
  · repeat' (first | refine W ?_ | refine op2 ?_ | refine op6 ?_ | refine ob4 ?_ | refine ob6 ?_ | refine ob2 (fun _ => ?_) | intro _ | simp only [List.set] | refine gdT ?_ | refine gdF ?_ | refine cdT ?_ | refine cdF ?_ | fail)
    exact reK _ ⟨rfl, rfl⟩ (List.Sublist.refl _)⟩
def val3 (a b c : UInt8) : Nat → Nat
  | 0 => 0
  | 1 => 0 * 256 + a.toNat
  | 2 => (0 * 256 + a.toNat) * 256 + b.toNat
  | _ => ((0 * 256 + a.toNat) * 256 + b.toNat) * 256 + c.toNat
instance rdText {g : Nat} {s : Bs} {b : Bool} {c most : Int} : AnsM Tryz.prog GL 46 g [.lit (.int .u8 c), int most] 130 (rdA s b) (s.length ≤ 4611686018427387904) (str (rtT c most s b)) (rdA (rsT c most s b) (rbT c most s b)) := ⟨fun hl => by
  refine spec_enter Tryz.func46 rfl Tryz.ntmps46 rfl (fun _ hs => ?_)
  cases b
  rotate_left
  · repeat' (first | refine W ?_ | refine op2 ?_ | refine op6 ?_ | refine ob4 ?_ | refine ob6 ?_ | refine ob2 (fun _ => ?_) | intro _ | simp only [List.set] | refine gdT ?_ | refine gdF ?_ | refine cdT ?_ | refine cdF ?_ | fail)
    refine reK [.var g 130 (rdA s true)] ⟨?_, ?_⟩ (List.Sublist.refl _)
    · rw [rtT, rbT_bad]; rfl
    · rw [rsT, rbT, rbT_bad]; rfl
  rcases s with _ | ⟨s0, s⟩
  · repeat' (first | refine W ?_ | refine op2 ?_ | refine op6 ?_ | refine ob4 ?_ | refine ob6 ?_ | refine ob2 (fun _ => ?_) | intro _ | simp only [List.set] | refine gdT ?_ | refine gdF ?_ | refine cdT ?_ | refine cdF ?_ | fail)
    exact reK [.var g 130 (rdA [] true)] ⟨rfl, rfl⟩ (List.Sublist.refl _)
  have hn : (nextC (s0 :: s) false).toNat = s0.toNat := rfl
  by_cases hc : (s0.toNat : Int) = c
  rotate_left
  · have e : cutT c most false (s0 :: s) = none := by
      rcases s with _ | ⟨s1, _ | ⟨s2, _ | ⟨s3, r⟩⟩⟩
      · rfl
      · rfl
      · rfl
      · rw [cutT, if_neg (fun h => hc h.2.1)]
    repeat' (first | refine W ?_ | refine op2 ?_ | refine op6 ?_ | refine ob4 ?_ | refine ob6 ?_ | refine ob2 (fun _ => ?_) | intro _ | simp only [List.set] | refine gdT ?_ | refine gdF ?_ | refine cdT ?_ | refine cdF ?_ | fail)
    refine reK [.var g 130 (rdA (s0 :: s) true)] ⟨?_, ?_⟩ (List.Sublist.refl _)
    · rw [rtT, e]; rfl
    · rw [rsT, rbT, e]; rfl
  rcases s with _ | ⟨s1, _ | ⟨s2, _ | ⟨s3, r⟩⟩⟩
  · repeat' (first | refine W ?_ | refine op2 ?_ | refine op6 ?_ | refine ob4 ?_ | refine ob6 ?_ | refine ob2 (fun _ => ?_) | intro _ | simp only [List.set] | refine gdT ?_ | refine gdF ?_ | refine cdT ?_ | refine cdF ?_ | fail)
    exact reK [.var g 130 (rdA [s0] true)] ⟨rfl, rfl⟩ (List.Sublist.refl _)
  · repeat' (first | refine W ?_ | refine op2 ?_ | refine op6 ?_ | refine ob4 ?_ | refine ob6 ?_ | refine ob2 (fun _ => ?_) | intro _ | simp only [List.set] | refine gdT ?_ | refine gdF ?_ | refine cdT ?_ | refine cdF ?_ | fail)
    exact reK [.var g 130 (rdA [s0, s1] true)] ⟨rfl, rfl⟩ (List.Sublist.refl _)
  · repeat' (first | refine W ?_ | refine op2 ?_ | refine op6 ?_ | refine ob4 ?_ | refine ob6 ?_ | refine ob2 (fun _ => ?_) | intro _ | simp only [List.set] | refine gdT ?_ | refine gdF ?_ | refine cdT ?_ | refine cdF ?_ | fail)
    exact reK [.var g 130 (rdA [s0, s1, s2] true)] ⟨rfl, rfl⟩ (List.Sublist.refl _)
  have hlen : (s0 :: s1 :: s2 :: s3 :: r).length = r.length + 4 := rfl
  have q1 := s1.toNat_lt
  have q2 := s2.toNat_lt
  have q3 := s3.toNat_lt
  repeat' (first | refine W ?_ | refine op2 ?_ | refine op6 ?_ | refine ob4 ?_ | refine ob6 ?_ | refine ob2 (fun _ => ?_) | intro _ | simp only [List.set] | refine gdT ?_ | refine gdF ?_ | refine cdT ?_ | refine cdF ?_ | fail)
  refine al_sliceS 1 4 ?_
  repeat' (first | refine W ?_ | refine op2 ?_ | refine op6 ?_ | refine ob4 ?_ | refine ob6 ?_ | refine ob2 (fun _ => ?_) | intro _ | simp only [List.set] | refine gdT ?_ | refine gdF ?_ | refine cdT ?_ | refine cdF ?_ | fail)
  refine ac_loop (α := Nat) (fun i => [(0, ptr g), (2, int most), (9, int (val3 s1 s2 s3 i : Nat)), (40, .sl 1 [.lit (u8v s1), .lit (u8v s2), .lit (u8v s3)] none), (41, int 3), (42, int i)]) (fun _ => [.var g 130 (rdA (s0 :: s1 :: s2 :: s3 :: r) false)])
    (fun i => i ≤ 3) (fun i => 3 - i) 0 ⟨rfl, rfl, rfl, rfl, rfl, rfl, trivial⟩ (List.Sublist.refl _) (by omega) ?_
  intro i hi
  rcases i with _ | _ | _ | _ | i
  · have v0 : val3 s1 s2 s3 0 = 0 := rfl
    repeat' (first | refine W ?_ | refine op2 ?_ | refine op6 ?_ | refine ob4 ?_ | refine ob6 ?_ | refine ob2 (fun _ => ?_) | intro _ | simp only [List.set] | refine gdT ?_ | refine gdF ?_ | refine cdT ?_ | refine cdF ?_ | fail)
    exact ae_round 1 ⟨rfl, rfl, rfl, rfl, rfl, rfl, trivial⟩ (List.Sublist.refl _) (by omega) (by omega)
  · have v1 : val3 s1 s2 s3 (0 + 1) = 0 * 256 + s1.toNat := rfl
    repeat' (first | refine W ?_ | refine op2 ?_ | refine op6 ?_ | refine ob4 ?_ | refine ob6 ?_ | refine ob2 (fun _ => ?_) | intro _ | simp only [List.set] | refine gdT ?_ | refine gdF ?_ | refine cdT ?_ | refine cdF ?_ | fail)
    exact ae_round 2 ⟨rfl, rfl, rfl, rfl, rfl, rfl, trivial⟩ (List.Sublist.refl _) (by omega) (by omega)
  · have v1 : val3 s1 s2 s3 (0 + 1 + 1) = (0 * 256 + s1.toNat) * 256 + s2.toNat := rfl
    repeat' (first | refine W ?_ | refine op2 ?_ | refine op6 ?_ | refine ob4 ?_ | refine ob6 ?_ | refine ob2 (fun _ => ?_) | intro _ | simp only [List.set] | refine gdT ?_ | refine gdF ?_ | refine cdT ?_ | refine cdF ?_ | fail)
    exact ae_round 3 ⟨rfl, rfl, rfl, rfl, rfl, rfl, trivial⟩ (List.Sublist.refl _) (by omega) (by omega)
  rotate_left
  · exact absurd hi (by omega)
  have hv : val3 s1 s2 s3 (0 + 1 + 1 + 1) = len3 s1 s2 s3 := by simp [val3, len3]
  have hlt := len3_lt s1 s2 s3
  have hct : cutT c most false (s0 :: s1 :: s2 :: s3 :: r) = if (len3 s1 s2 s3 : Int) ≤ most ∧ len3 s1 s2 s3 ≤ r.length then some (r.take (len3 s1 s2 s3), r.drop (len3 s1 s2 s3)) else none := by
    rw [cutT]
    simp [hc]
  rw [hv]
  generalize len3 s1 s2 s3 = n at *
  by_cases h1 : (n : Int) ≤ most
  rotate_left
  · have e : cutT c most false (s0 :: s1 :: s2 :: s3 :: r) = none := by rw [hct, if_neg (fun h => h1 h.1)]
    repeat' (first | refine W ?_ | refine op2 ?_ | refine op6 ?_ | refine ob4 ?_ | refine ob6 ?_ | refine ob2 (fun _ => ?_) | intro _ | simp only [List.set] | refine gdT ?_ | refine gdF ?_ | refine cdT ?_ | refine cdF ?_ | fail)
    refine reK [.var g 130 (rdA (s0 :: s1 :: s2 :: s3 :: r) true)] ⟨?_, ?_⟩ (List.Sublist.refl _)
    · rw [rtT, e]; rfl
    · rw [rsT, rbT, e]; rfl
  by_cases h2 : n ≤ r.length
  rotate_left
  · have e : cutT c most false (s0 :: s1 :: s2 :: s3 :: r) = none := by rw [hct, if_neg (fun h => h2 h.2)]
    repeat' (first | refine W ?_ | refine op2 ?_ | refine op6 ?_ | refine ob4 ?_ | refine ob6 ?_ | refine ob2 (fun _ => ?_) | intro _ | simp only [List.set] | refine gdT ?_ | refine gdF ?_ | refine cdT ?_ | refine cdF ?_ | fail)
    refine reK [.var g 130 (rdA (s0 :: s1 :: s2 :: s3 :: r) true)] ⟨?_, ?_⟩ (List.Sublist.refl _)
    · rw [rtT, e]; rfl
    · rw [rsT, rbT, e]; rfl
  have e : cutT c most false (s0 :: s1 :: s2 :: s3 :: r) = some (r.take n, r.drop n) := by rw [hct, if_pos ⟨h1, h2⟩]
  repeat' (first | refine W ?_ | refine op2 ?_ | refine op6 ?_ | refine ob4 ?_ | refine ob6 ?_ | refine ob2 (fun _ => ?_) | intro _ | simp only [List.set] | refine gdT ?_ | refine gdF ?_ | refine cdT ?_ | refine cdF ?_ | fail)
  refine al_sliceS 4 (4 + n) ?_
  repeat' (first | refine W ?_ | refine op2 ?_ | refine op6 ?_ | refine ob4 ?_ | refine ob6 ?_ | refine ob2 (fun _ => ?_) | intro _ | simp only [List.set] | refine gdT ?_ | refine gdF ?_ | refine cdT ?_ | refine cdF ?_ | fail)
  refine al_sliceS (4 + n) (r.length + 4) ?_
  repeat' (first | refine W ?_ | refine op2 ?_ | refine op6 ?_ | refine ob4 ?_ | refine ob6 ?_ | refine ob2 (fun _ => ?_) | intro _ | simp only [List.set] | refine gdT ?_ | refine gdF ?_ | refine cdT ?_ | refine cdF ?_ | fail)
  refine reK [.var g 130 (rdA (r.drop n) false)] ⟨?_, ?_⟩ ?_
  · rw [rtT, e]
    simp [outOf, Nat.add_comm]
  · rw [rsT, rbT, e]; rfl
  · have e2 : List.drop (4 + n) (List.take (r.length + 4) (s0 :: s1 :: s2 :: s3 :: r)) = r.drop n := by
      rw [List.take_of_length_le (by simp), Nat.add_comm 4 n]
      simp
    rw [e2]
    exact List.Sublist.refl _⟩
end Go.Proofs.YtkijoddconipoaaGreatDoor

namespace Go.Proofs.YtkijoddconipoaaGreatDoor
open Go Go.RowKit Tw Av
theorem rnN_eq {c : Int} {s : Bs} {b : Bool} : rnN c s b = if lead0 (rtT c 8 s b) = true then 0 else numOf (rtT c 8 s b) := rfl
theorem rnN_lt (c : Int) (s : Bs) (b : Bool) : rnN c s b < 18446744073709551616 := by
  rw [rnN_eq]
  have h := (rtT_len c 8 s b).2 (by decide)
  have := numOf_small (l := rtT c 8 s b) (by omega)
  split <;> omega
instance rdNum {g : Nat} {s : Bs} {b : Bool} {c : Int} : AnsM Tryz.prog GL 95 g [.lit (.int .u8 c)] 130 (rdA s b) (s.length ≤ 4611686018427387904) (.lit (.int .u64 (rnN c s b))) (rdA (rsT c 8 s b) (rnB c s b)) := ⟨fun hl => by
  refine spec_enter Tryz.func95 rfl Tryz.ntmps95 rfl (fun _ hs => ?_)
  repeat' (first | refine W ?_ | refine op2 ?_ | refine op6 ?_ | refine ob4 ?_ | refine ob6 ?_ | refine ob2 (fun _ => ?_) | intro _ | simp only [List.set] | refine gdT ?_ | refine gdF ?_ | refine cdT ?_ | refine cdF ?_ | fail)
  have hx := (rtT_len c 8 s b).2 (by decide)
  rw [rnB, rnN_eq]
  generalize rtT c 8 s b = x at *
  refine ac_loop (α := Nat) (fun i => [(0, ptr g), (5, str x), (6, .lit (.int .u64 (numOf (x.take i) : Nat))), (12, int x.length), (13, int i)]) (fun _ => [.var g 130 (rdA (rsT c 8 s b) (rbT c 8 s b))])
    (fun i => i ≤ x.length) (fun i => x.length - i) 0 ⟨rfl, rfl, rfl, rfl, rfl, trivial⟩ (List.Sublist.refl _) (by omega) ?_
  intro i hi
  repeat' (first | refine W ?_ | refine op2 ?_ | refine op6 ?_ | refine ob4 ?_ | refine ob6 ?_ | refine ob2 (fun _ => ?_) | intro _ | simp only [List.set] | refine gdT ?_ | refine gdF ?_ | refine cdT ?_ | refine cdF ?_ | fail)
  refine ac_cond (fun hlt => ?_) (fun hlt => ?_)
  · have hil : i < x.length := by omega
    have h1 := numOf_take hil
    have h2 := x[i].toNat_lt
    have h3 := numOf_small (l := x.take (i + 1)) (by simp; omega)
    repeat' (first | refine W ?_ | refine op2 ?_ | refine op6 ?_ | refine ob4 ?_ | refine ob6 ?_ | refine ob2 (fun _ => ?_) | intro _ | simp only [List.set] | refine gdT ?_ | refine gdF ?_ | refine cdT ?_ | refine cdF ?_ | fail)
    refine al_idxS i ?_ (List.getElem?_eq_getElem hil)
    repeat' (first | refine W ?_ | refine op2 ?_ | refine op6 ?_ | refine ob4 ?_ | refine ob6 ?_ | refine ob2 (fun _ => ?_) | intro _ | simp only [List.set] | refine gdT ?_ | refine gdF ?_ | refine cdT ?_ | refine cdF ?_ | fail)
    refine ae_round (i + 1) ⟨rfl, rfl, ?_, rfl, rfl, trivial⟩ (List.Sublist.refl _) hil (by omega)
    rw [h1]
    rfl
  · obtain rfl : i = x.length := by omega
    rw [List.take_length]
    cases x with
    | nil =>
      repeat' (first | refine W ?_ | refine op2 ?_ | refine op6 ?_ | refine ob4 ?_ | refine ob6 ?_ | refine ob2 (fun _ => ?_) | intro _ | simp only [List.set] | refine gdT ?_ | refine gdF ?_ | refine cdT ?_ | refine cdF ?_ | fail)
      refine reK [.var g 130 (rdA (rsT c 8 s b) (rbT c 8 s b))] ⟨rfl, ?_⟩ (List.Sublist.refl _)
      simp [lead0]
    | cons a x =>
      have ha : lead0 (a :: x) = decide ((a.toNat : Int) = 0) := by
        rw [lead0_cons]
        refine decide_eq_decide.2 ⟨fun h => by rw [h]; rfl, fun h => UInt8.toNat.inj (by simpa using h)⟩
      rw [ha]
      by_cases h0 : (a.toNat : Int) = 0
      · rw [decide_eq_true h0]
        repeat' (first | refine W ?_ | refine op2 ?_ | refine op6 ?_ | refine ob4 ?_ | refine ob6 ?_ | refine ob2 (fun _ => ?_) | intro _ | simp only [List.set] | refine gdT ?_ | refine gdF ?_ | refine cdT ?_ | refine cdF ?_ | fail)
        refine reK [.var g 130 (rdA (rsT c 8 s b) true)] ⟨rfl, ?_⟩ (List.Sublist.refl _)
        simp
      · rw [decide_eq_false h0]
        repeat' (first | refine W ?_ | refine op2 ?_ | refine op6 ?_ | refine ob4 ?_ | refine ob6 ?_ | refine ob2 (fun _ => ?_) | intro _ | simp only [List.set] | refine gdT ?_ | refine gdF ?_ | refine cdT ?_ | refine cdF ?_ | fail)
        refine reK [.var g 130 (rdA (rsT c 8 s b) (rbT c 8 s b))] ⟨rfl, ?_⟩ (List.Sublist.refl _)
        simp⟩
instance rdInt {g : Nat} {s : Bs} {b : Bool} {c most : Int} : AnsM Tryz.prog GL 47 g [.lit (.int .u8 c), int most] 130 (rdA s b) (s.length ≤ 4611686018427387904 ∧ 0 ≤ most ∧ most ≤ 9223372036854775807) (int (riI c most s b)) (rdA (rsT c 8 s b) (riB c most s b)) := ⟨fun hp => by
  obtain ⟨hl, h0, h1⟩ := hp
  refine spec_enter Tryz.func47 rfl Tryz.ntmps47 rfl (fun _ hs => ?_)
  repeat' (first | refine W ?_ | refine op2 ?_ | refine op6 ?_ | refine ob4 ?_ | refine ob6 ?_ | refine ob2 (fun _ => ?_) | intro _ | simp only [List.set] | refine gdT ?_ | refine gdF ?_ | refine cdT ?_ | refine cdF ?_ | fail)
  have hx := rnN_lt c s b
  rw [riI, riB]
  generalize rnN c s b = n at *
  by_cases h : most < (n : Int)
  · rw [if_pos h, decide_eq_true h]
    repeat' (first | refine W ?_ | refine op2 ?_ | refine op6 ?_ | refine ob4 ?_ | refine ob6 ?_ | refine ob2 (fun _ => ?_) | intro _ | simp only [List.set] | refine gdT ?_ | refine gdF ?_ | refine cdT ?_ | refine cdF ?_ | fail)
    refine reK [.var g 130 (rdA (rsT c 8 s b) true)] ⟨rfl, ?_⟩ (List.Sublist.refl _)
    simp
  · rw [if_neg h, decide_eq_false h]
    repeat' (first | refine W ?_ | refine op2 ?_ | refine op6 ?_ | refine ob4 ?_ | refine ob6 ?_ | refine ob2 (fun _ => ?_) | intro _ | simp only [List.set] | refine gdT ?_ | refine gdF ?_ | refine cdT ?_ | refine cdF ?_ | fail)
    refine reK [.var g 130 (rdA (rsT c 8 s b) (rnB c s b))] ⟨rfl, ?_⟩ (List.Sublist.refl _)
    simp⟩
end Go.Proofs.YtkijoddconipoaaGreatDoor

namespace Go.Proofs.YtkijoddconipoaaGreatDoor
open Go Go.RowKit Tw Av
theorem all1 {go gi gr gl gm : Nat} {acc : List Bs} {v : Value} {s : Bs} {b : Bool} {c most : Int} (hl : s.length ≤ 4611686018427387904) (hn : acc.length ≤ 1000000000) : Av.Spec Tryz.prog GL 96 [ptr go, ptr gi, ptr gl, ptr gm]
    [.tail 9 1 v, .var go 88 (.sl 1 (acc.map str) (some v)), .var gi 84 (ptr gr), .var gr 130 (rdA s b), .var gm 3 (int most), .var gl 5 (.lit (.int .u8 c))]
    fun u m => ∃ v', u = boo (!rbT c most s b) ∧ m = [.tail 9 1 v', .var go 88 (.sl 1 ((acc ++ [rtT c most s b]).map str) (some v')), .var gi 84 (ptr gr), .var gr 130 (rdA (rsT c most s b) (rbT c most s b)), .var gm 3 (int most), .var gl 5 (.lit (.int .u8 c))] := by
  refine spec_enter Tryz.func96 rfl Tryz.ntmps96 rfl (fun _ hs => ?_)
  repeat' (first | refine W ?_ | refine op2 ?_ | refine op6 ?_ | refine ob4 ?_ | refine ob6 ?_ | refine ob2 (fun _ => ?_) | intro _ | simp only [List.set] | refine gdT ?_ | refine gdF ?_ | refine cdT ?_ | refine cdF ?_ | fail)
  apply obl_fresh [0]; exact rfl; exact rfl; exact rfl; kernel_rfl; intro _ _
  refine al_append (fun v' => ?_)
  refine al_nil (ae_fresh [.tail 9 1 v'] [] rfl rfl (List.Perm.refl _) rfl ?_)
  repeat' (first | refine W ?_ | refine op2 ?_ | refine op6 ?_ | refine ob4 ?_ | refine ob6 ?_ | refine ob2 (fun _ => ?_) | intro _ | simp only [List.set] | refine gdT ?_ | refine gdF ?_ | refine cdT ?_ | refine cdF ?_ | fail)
  refine reK _ ⟨v', rfl, rfl⟩ ?_
  rw [List.map_append]
  exact List.Sublist.refl _
theorem bods_nil {c most : Int} {f : Nat} : bods c most (f + 1) [] false = ([], false) := by rw [bods, if_pos (.inr rfl)]
theorem bods_bad {c most : Int} : ∀ {f : Nat} {s : Bs}, bods c most f s true = ([], true)
  | 0, _ => rfl
  | f + 1, s => by rw [bods, if_pos (.inl rfl)]
theorem bods_cons {c most : Int} {f : Nat} {a : UInt8} {s : Bs} : bods c most (f + 1) (a :: s) false = (rtT c most (a :: s) false :: (bods c most f (rsT c most (a :: s) false) (rbT c most (a :: s) false)).1, (bods c most f (rsT c most (a :: s) false) (rbT c most (a :: s) false)).2) := by rw [bods, if_neg (by simp)]
instance rdAll {g : Nat} {s : Bs} {b : Bool} {c many most : Int} : AnsM Tryz.prog GL 48 g [.lit (.int .u8 c), int many, int most] 130 (rdA s b) (s.length ≤ 1000000000) (.sl 1 ((raL c many most s b).map str) none) (rdA (rsT c 16777215 s b) (raB c many most s b)) := ⟨fun hl => by
  refine spec_enter Tryz.func48 rfl Tryz.ntmps48 rfl (fun _ hs => ?_)
  repeat' (first | refine W ?_ | refine op2 ?_ | refine op6 ?_ | refine ob4 ?_ | refine ob6 ?_ | refine ob2 (fun _ => ?_) | intro _ | simp only [List.set] | refine gdT ?_ | refine gdF ?_ | refine cdT ?_ | refine cdF ?_ | fail)
  have hx := (rtT_len c 16777215 s b).1
  have hx2 := (rsT_len c 16777215 s b).1
  rw [raL, raB]
  generalize rtT c 16777215 s b = x at *
  generalize rsT c 16777215 s b = s1 at *
  generalize rbT c 16777215 s b = b1 at *
  refine al_callK (args := [str x]) [] _ (by rw [hs]; exact tlvRead) (fun u m1 hh => ?_) (List.Perm.refl _)
  obtain ⟨gr, rfl, rfl⟩ := hh
  repeat' (first | refine W ?_ | refine op2 ?_ | refine op6 ?_ | refine ob4 ?_ | refine ob6 ?_ | refine ob2 (fun _ => ?_) | intro _ | simp only [List.set] | refine gdT ?_ | refine gdF ?_ | refine cdT ?_ | refine cdF ?_ | fail)
  rename_i gl gm gi go
  refine al_makeFunc (vs := [.pointer (some ⟨go, 0, none⟩), .pointer (some ⟨gi, 0, none⟩), .pointer (some ⟨gl, 0, none⟩), .pointer (some ⟨gm, 0, none⟩)]) ?_
  repeat' (first | refine W ?_ | refine op2 ?_ | refine op6 ?_ | refine ob4 ?_ | refine ob6 ?_ | refine ob2 (fun _ => ?_) | intro _ | simp only [List.set] | refine gdT ?_ | refine gdF ?_ | refine cdT ?_ | refine cdF ?_ | fail)
  generalize hX : allX c most x = X at *
  refine ac_asV (g := go) (v' := .sl 1 [] (some (.slice none 0 0))) ImpC.nilT ?_
  refine ac_st (fun ok w h => h.full 9 1 none 0) ?_
  refine ac_midB (α := Value) (fun _ => [(0, ptr g), (2, int many), (10, ptr go)]) (fun v => [.tail 9 1 v, .var go 88 (.sl 1 (X.1.map str) (some v)), .var g 130 (rdA s1 (b1 || X.2))]) ?_ (fun v => ?_)
  focus
    refine ac_loop (α := List Bs × Value × Bs × Nat) (fun _ => [(0, ptr g), (2, int many), (9, ptr gi), (10, ptr go), (11, fnv 96 [.pointer (some ⟨go, 0, none⟩), .pointer (some ⟨gi, 0, none⟩), .pointer (some ⟨gl, 0, none⟩), .pointer (some ⟨gm, 0, none⟩)])])
      (fun q => [.tail 9 1 q.2.1, .var go 88 (.sl 1 (q.1.map str) (some q.2.1)), .var gi 84 (ptr gr), .var gr 130 (rdA q.2.2.1 false), .var gm 3 (int most), .var gl 5 (.lit (.int .u8 c)), .var g 130 (rdA s1 b1)])
      (fun q => X = (q.1 ++ (bods c most q.2.2.2 q.2.2.1 false).1, (bods c most q.2.2.2 q.2.2.1 false).2) ∧ q.2.2.1.length < q.2.2.2 ∧ q.1.length + q.2.2.1.length ≤ x.length) (fun q => q.2.2.2) ([], .slice none 0 0, x, x.length + 1) ⟨rfl, rfl, rfl, rfl, rfl, trivial⟩ (List.Sublist.refl _) ⟨hX.symm, by dsimp only; omega, by simp⟩ ?_
    rintro ⟨acc, v, s2, f⟩ ⟨e1, e2, e3⟩
    dsimp only at e1 e2 e3 ⊢
    rcases f with _ | f
    focus
      omega
    cases s2 with
    | nil =>
      rw [bods_nil, List.append_nil] at e1
      subst e1
      repeat' (first | refine W ?_ | refine op2 ?_ | refine op6 ?_ | refine ob4 ?_ | refine ob6 ?_ | refine ob2 (fun _ => ?_) | intro _ | simp only [List.set] | refine gdT ?_ | refine gdF ?_ | refine cdT ?_ | refine cdF ?_ | fail)
      refine ae_cut v ⟨rfl, rfl, rfl, trivial⟩ ?_
      rw [Bool.or_false]
      repeat (first | exact List.nil_sublist _ | exact List.Sublist.refl _ | apply List.Sublist.cons_cons | apply List.Sublist.cons)
    | cons a s2 =>
      have hl2 : (if false = true then 0 else (a :: s2).length) = s2.length + 1 := rfl
      repeat' (first | refine W ?_ | refine op2 ?_ | refine op6 ?_ | refine ob4 ?_ | refine ob6 ?_ | refine ob2 (fun _ => ?_) | intro _ | simp only [List.set] | refine gdT ?_ | refine gdF ?_ | refine cdT ?_ | refine cdF ?_ | fail)
      refine al_callV (args := []) (cs := [.pointer (some ⟨go, 0, none⟩), .pointer (some ⟨gi, 0, none⟩), .pointer (some ⟨gl, 0, none⟩), .pointer (some ⟨gm, 0, none⟩)])
        [.tail 9 1 v, .var go 88 (.sl 1 (acc.map str) (some v)), .var gi 84 (ptr gr), .var gr 130 (rdA (a :: s2) false), .var gm 3 (int most), .var gl 5 (.lit (.int .u8 c))] [.var g 130 (rdA s1 b1)]
        (by rw [hs]; exact all1 (by omega) (by omega)) (fun u m1 hh => ?_) (List.Perm.refl _)
      obtain ⟨v', rfl, rfl⟩ := hh
      rw [bods_cons] at e1
      have hle := (rsT_len c most (a :: s2) false).1
      have hlt := rsT_dec (c := c) (most := most) (s := a :: s2) (b := false)
      generalize rtT c most (a :: s2) false = x' at *
      generalize rsT c most (a :: s2) false = s3 at *
      cases hb : rbT c most (a :: s2) false
      · have hlt := hlt hb
        rw [hb] at e1
        repeat' (first | refine W ?_ | refine op2 ?_ | refine op6 ?_ | refine ob4 ?_ | refine ob6 ?_ | refine ob2 (fun _ => ?_) | intro _ | simp only [List.set] | refine gdT ?_ | refine gdF ?_ | refine cdT ?_ | refine cdF ?_ | fail)
        refine ae_round (acc ++ [x'], v', s3, f) ⟨rfl, rfl, rfl, rfl, rfl, trivial⟩ (List.Sublist.refl _) ⟨?_, by dsimp only; omega, by simp only [List.length_append, List.length_cons, List.length_nil]; omega⟩ (by dsimp only; omega)
        simpa using e1
      · rw [hb, bods_bad] at e1
        subst e1
        repeat' (first | refine W ?_ | refine op2 ?_ | refine op6 ?_ | refine ob4 ?_ | refine ob6 ?_ | refine ob2 (fun _ => ?_) | intro _ | simp only [List.set] | refine gdT ?_ | refine gdF ?_ | refine cdT ?_ | refine cdF ?_ | fail)
        refine ae_cut v' ⟨rfl, rfl, rfl, trivial⟩ ?_
        rw [Bool.or_true]
        repeat (first | exact List.nil_sublist _ | exact List.Sublist.refl _ | apply List.Sublist.cons_cons | apply List.Sublist.cons)
  focus
    have hml : (X.1.map str).length = X.1.length := List.length_map _
    unfold outA badA
    by_cases hm : many < (X.1.length : Int)
    · rw [decide_eq_true hm, Bool.or_true, Bool.or_true, if_pos rfl]
      repeat' (first | refine W ?_ | refine op2 ?_ | refine op6 ?_ | refine ob4 ?_ | refine ob6 ?_ | refine ob2 (fun _ => ?_) | intro _ | simp only [List.set] | refine gdT ?_ | refine gdF ?_ | refine cdT ?_ | refine cdF ?_ | fail)
      refine reIKm (.sl 1 [] none) [.var g 130 (rdA s1 true)] ?_ ⟨rfl, rfl⟩ ?_
      focus
        exact Imp.nilN
      repeat (first | exact List.nil_sublist _ | exact List.Sublist.refl _ | apply List.Sublist.cons_cons | apply List.Sublist.cons)
    · rw [decide_eq_false hm, Bool.or_false]
      cases hb : (b1 || X.2)
      · repeat' (first | refine W ?_ | refine op2 ?_ | refine op6 ?_ | refine ob4 ?_ | refine ob6 ?_ | refine ob2 (fun _ => ?_) | intro _ | simp only [List.set] | refine gdT ?_ | refine gdF ?_ | refine cdT ?_ | refine cdF ?_ | fail)
        refine reIKm (.sl 1 (X.1.map str) none) [.var g 130 (rdA s1 false)] ?_ ⟨rfl, rfl⟩ ?_
        focus
          exact Imp.sl
        repeat (first | exact List.nil_sublist _ | exact List.Sublist.refl _ | apply List.Sublist.cons_cons | apply List.Sublist.cons)
      · repeat' (first | refine W ?_ | refine op2 ?_ | refine op6 ?_ | refine ob4 ?_ | refine ob6 ?_ | refine ob2 (fun _ => ?_) | intro _ | simp only [List.set] | refine gdT ?_ | refine gdF ?_ | refine cdT ?_ | refine cdF ?_ | fail)
        refine reIKm (.sl 1 [] none) [.var g 130 (rdA s1 true)] ?_ ⟨rfl, rfl⟩ ?_
        focus
          exact Imp.nilN
        repeat (first | exact List.nil_sublist _ | exact List.Sublist.refl _ | apply List.Sublist.cons_cons | apply List.Sublist.cons)⟩
end Go.Proofs.YtkijoddconipoaaGreatDoor
