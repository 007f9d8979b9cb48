/- Chapter 10: proofs, found and compared. -/
import Derived.Test.YtkijoddconipoaaGreatDoorP1
import Derived.Test.YtkijoddconipoaaGreatDoorP2
import Derived.Test.YtkijoddconipoaaGreatDoorP3
import Derived.Test.YtkijoddconipoaaGreatDoorP4
import Derived.Test.YtkijoddconipoaaGreatDoorP5
import Derived.Test.YtkijoddconipoaaGreatDoorQ1
import Derived.Test.YtkijoddconipoaaGreatDoorQ2
import Derived.Test.YtkijoddconipoaaGreatDoorK1
import Derived.Test.YtkijoddconipoaaGreatDoorQ3
import Derived.Test.YtkijoddconipoaaGreatDoorQ4
import Derived.Test.YtkijoddconipoaaGreatDoorQ5
import Derived.Test.YtkijoddconipoaaGreatDoorQ13
import Derived.Test.YtkijoddconipoaaGreatDoorQ14
import Derived.Test.YtkijoddconipoaaGreatDoorQ6
import Derived.Test.YtkijoddconipoaaGreatDoorQ7
import Derived.Test.YtkijoddconipoaaGreatDoorQ8
import Derived.Test.YtkijoddconipoaaGreatDoorQ10
namespace Go.Proofs.YtkijoddconipoaaGreatDoor
open Go Go.RowKit Tw Av
structure Prf where
  a : Int
  m : Int
  p : List Hsh
deriving DecidableEq
structure Gp where
  n : Int
  l : List Ent
  r : List Ent
  a : Prf
  b : Prf
deriving DecidableEq
abbrev prfA (x : Prf) : AV := .agg 3 [int x.a, int x.m, .sl 32 (x.p.map hA) none]
abbrev gpA (x : Gp) : AV := .agg 9 [int x.n, .sl 2 (x.l.map entA) none, .sl 2 (x.r.map entA) none, prfA x.a, prfA x.b]
def zeroP : Prf := ⟨0, 0, []⟩
def zeroG : Gp := ⟨0, [], [], zeroP, zeroP⟩
def atP (d : List Ent) (i : Int) : Prf := ⟨i, d.length, pathH (d.map leafH) i⟩
def memP (d : List Ent) (i : Nat) (is : Bool) : Prf := if is = true then atP d i else zeroP
def absG (d : List Ent) (i : Nat) (is : Bool) : Gp := if is = true then zeroG else
  ⟨d.length, if 0 < i then [d.getD (i - 1) ⟨[], []⟩] else [], if i < d.length then [d.getD i ⟨[], []⟩] else [], if 0 < i then atP d ((i - 1 : Nat) : Int) else zeroP, if i < d.length then atP d i else zeroP⟩
def holdsB (root : Hsh) (x : Ent) (p : Prf) : Bool := (foldH p.m p.a (leafH x) p.p).isSome && decide ((foldH p.m p.a (leafH x) p.p).getD zeroH = root)
def sideB (root : Hsh) (n : Int) (bes : Bs → Bool) : List Ent → Prf → Bool
  | [], _ => true
  | [x], p => bes x.key && (decide (p.m = n) && holdsB root x p)
  | _, _ => false
def endB (root : Hsh) (g : Gp) : Bool := match g.l, g.r with
  | [], [] => decide (g.n = 0) && decide (root = topH 0 (treeH []))
  | [], _ => decide (g.b.a = 0)
  | _, [] => decide (g.a.a = g.n - 1)
  | _, _ => decide (g.b.a = g.a.a + 1)
def missB (root : Hsh) (k : Bs) (g : Gp) : Bool := sideB root g.n (fun a => blt a k) g.l g.a && (sideB root g.n (fun a => blt k a) g.r g.b && endB root g)
/-- the references' finding -/
def fndAt (l : List Ent) (k : Bs) : Nat := l.findIdx fun x => !blt x.key k
def fndIs (l : List Ent) (k : Bs) : Bool := decide (fndAt l k < l.length ∧ (l.getD (fndAt l k) ⟨[], []⟩).key = k)
theorem fndAt_le (l : List Ent) (k : Bs) : fndAt l k ≤ l.length := List.findIdx_le_length
theorem fndAt_step {l : List Ent} {k : Bs} {i : Nat} (hi : i < l.length) (hb : ∀ j, (hj : j < i) → blt (l[j]'(by omega)).key k = true) (hh : blt l[i].key k = false) : fndAt l k = i := by
  unfold fndAt
  rw [List.findIdx_eq hi]
  exact ⟨by simpa using hh, fun j hj => by simpa using hb j hj⟩
theorem fndAt_none {l : List Ent} {k : Bs} (hb : ∀ j, (hj : j < l.length) → blt l[j].key k = true) : fndAt l k = l.length := by
  unfold fndAt
  rw [List.findIdx_eq_length]
  intro x hx
  obtain ⟨j, hj, rfl⟩ := List.getElem_of_mem hx
  simpa using hb j hj
theorem getD_at {α : Type} {l : List α} {i : Nat} {d : α} (h : i < l.length) : l.getD i d = l[i] := by simp [List.getD, h]
theorem fnd_eq {l : List Ent} {k : Bs} (h : Srt l) : fndAt l k = bsAt l k ∧ fndIs l k = bsIs l k := by
  obtain ⟨h1, h2⟩ := bs_split (k := k) h
  have hle : bsAt l k ≤ l.length := by
    obtain ⟨A, B, _, _, e, h⟩ := bs_parts k h
    rw [e]
    rcases h with ⟨_, h⟩ | ⟨v, _, h⟩ <;> (rw [h]; simp)
  have hat : fndAt l k = bsAt l k := by
    rcases Nat.lt_or_ge (bsAt l k) l.length with h3 | h3
    · refine fndAt_step h3 (fun j hj => h1 _ ?_) (h2 _ ?_)
      · exact List.mem_take_iff_getElem.2 ⟨j, by omega, rfl⟩
      · rw [List.drop_eq_getElem_cons h3]
        exact List.mem_cons_self
    · have e : bsAt l k = l.length := by omega
      rw [e, fndAt_none]
      intro j hj
      refine h1 _ ?_
      rw [e, List.take_length]
      exact List.getElem_mem _
  refine ⟨hat, ?_⟩
  unfold fndIs bsIs
  rw [hat, Bool.decide_and]
  congr 1
  exact decide_eq_decide.2 scmp_eq0.symm
instance fnR8Find {l : List Ent} {k : Bs} {xs : List AV} {id : Option Value} [hx : Ents xs l] : Ans Tryz.prog GL 71 [.sl 2 xs id, str k] True (.tup [int (fndAt l k), boo (fndIs l k)]) := ⟨fun _ => by
  have h := hx.out
  subst h
  have hm : (l.map entA).length = l.length := List.length_map _
  refine spec_enter Tryz.func71 rfl Tryz.ntmps71 rfl (fun _ hs => ?_)
  refine ac_bnd 0 (fun hb => ?_)
  have hb := maxLen_le hb
  repeat' (first | refine W ?_ | refine op2 ?_ | refine ob4 ?_ | refine ob2 (fun _ => ?_) | intro _ | simp only [List.set])
  refine ac_loop (α := Nat) (fun i => [(0, .sl 2 (l.map entA) id), (1, str k), (6, int i)]) (fun _ => []) (fun i => i ≤ l.length ∧ ∀ j, (hj : j < l.length) → j < i → blt l[j].key k = true) (fun i => l.length - i) 0 ⟨rfl, rfl, rfl, trivial⟩ (List.Sublist.refl _) ⟨Nat.zero_le _, fun _ _ h => absurd h (by omega)⟩ ?_
  rintro i ⟨g1, g2⟩
  repeat' (first | refine W ?_ | refine op2 ?_ | refine ob4 ?_ | refine ob2 (fun _ => ?_) | intro _ | simp only [List.set])
  refine ac_cond (fun hlt => ?_) (fun hlt => ?_)
  · have hil : i < l.length := by omega
    repeat' (first | refine W ?_ | refine op2 ?_ | refine ob4 ?_ | refine ob2 (fun _ => ?_) | intro _ | simp only [List.set])
    refine ac_condB (fun hc => ?_) (fun hc => ?_)
    · repeat' (first | refine W ?_ | refine op3 ?_ | refine ob5 ?_ | refine opE ?_ | refine obE ?_ | refine ob2 (fun _ => ?_) | intro _)
      refine reE ?_
      have e := fndAt_step hil (fun j hj => g2 j (by omega) hj) (by simpa using hc)
      rw [fndIs, e, getD_at hil]
      simp [outOf, hil]
    · repeat' (first | refine W ?_ | refine op2 ?_ | refine ob4 ?_ | refine ob2 (fun _ => ?_) | intro _ | simp only [List.set])
      refine ae_round (i + 1) ⟨rfl, rfl, rfl, trivial⟩ (List.Sublist.refl _) ⟨hil, fun j hj h => ?_⟩ (by omega)
      rcases Nat.lt_or_ge j i with h2 | h2
      · exact g2 j hj h2
      · obtain rfl : j = i := by omega
        simpa using hc
  · obtain rfl : i = l.length := by omega
    repeat' (first | refine W ?_ | refine op2 ?_ | refine ob4 ?_ | refine ob2 (fun _ => ?_) | intro _ | simp only [List.set])
    refine reE ?_
    have e := fndAt_none (fun j hj => g2 j hj hj)
    rw [fndIs, e]
    simp [outOf]⟩
attribute [irreducible] fndIs
instance fnESame {a b : List Ent} {xs ys : List AV} {id id2 : Option Value} [hx : Ents xs a] [hy : Ents ys b] : Ans Tryz.prog GL 77 [.sl 2 xs id, .sl 2 ys id2] True (boo (decide (a = b))) := ⟨fun _ => by
  have h1 := hx.out
  have h2 := hy.out
  subst h1 h2
  have hma : (a.map entA).length = a.length := List.length_map _
  have hmb : (b.map entA).length = b.length := List.length_map _
  refine spec_enter Tryz.func77 rfl Tryz.ntmps77 rfl (fun _ hs => ?_)
  refine ac_bnd 0 (fun hb => ?_)
  have hb := maxLen_le hb
  repeat' (first | refine W ?_ | refine op2 ?_ | refine ob4 ?_ | refine ob2 (fun _ => ?_) | intro _ | simp only [List.set])
  refine ac_cond (fun hne => ?_) (fun he => ?_)
  · repeat' (first | refine W ?_ | refine op2 ?_ | refine ob4 ?_ | refine ob2 (fun _ => ?_) | intro _ | simp only [List.set])
    refine reE ?_
    have : a ≠ b := fun e => by subst e; exact hne rfl
    simp [outOf, this]
  · have hle : a.length = b.length := by omega
    repeat' (first | refine W ?_ | refine op2 ?_ | refine ob4 ?_ | refine ob2 (fun _ => ?_) | intro _ | simp only [List.set])
    refine ac_loop (α := Nat) (fun i => [(0, .sl 2 (a.map entA) id), (1, .sl 2 (b.map entA) id2), (5, int i)]) (fun _ => []) (fun i => i ≤ a.length ∧ a.take i = b.take i) (fun i => a.length - i) 0 ⟨rfl, rfl, rfl, trivial⟩ (List.Sublist.refl _) ⟨Nat.zero_le _, rfl⟩ ?_
    rintro i ⟨g1, g2⟩
    repeat' (first | refine W ?_ | refine op2 ?_ | refine ob4 ?_ | refine ob2 (fun _ => ?_) | intro _ | simp only [List.set])
    refine ac_cond (fun hlt => ?_) (fun hlt => ?_)
    · have ha : i < a.length := by omega
      have hb : i < b.length := by omega
      repeat' (first | refine W ?_ | refine op3 ?_ | refine ob5 ?_ | refine opE ?_ | refine obE ?_ | refine ob2 (fun _ => ?_) | intro _)
      have hk : decide (a[i] = b[i]) = (decide (a[i].key = b[i].key) && (decide (a[i].val = b[i].val) && true)) := by
        rw [show a[i] = ⟨a[i].key, a[i].val⟩ from rfl, show b[i] = ⟨b[i].key, b[i].val⟩ from rfl]
        simp [Ent.mk.injEq]
      rw [← hk]
      refine ac_condB (fun hc => ?_) (fun hc => ?_)
      · repeat' (first | refine W ?_ | refine op2 ?_ | refine ob4 ?_ | refine ob2 (fun _ => ?_) | intro _ | simp only [List.set])
        refine reE ?_
        have hne : a[i] ≠ b[i] := by simpa using hc
        have : a ≠ b := fun e => by subst e; exact hne rfl
        simp [outOf, this]
      · repeat' (first | refine W ?_ | refine op2 ?_ | refine ob4 ?_ | refine ob2 (fun _ => ?_) | intro _ | simp only [List.set])
        exact ae_round (i + 1) ⟨rfl, rfl, rfl, trivial⟩ (List.Sublist.refl _) ⟨ha, take_eq_step g2 ha hb (by simpa using hc)⟩ (by omega)
    · repeat' (first | refine W ?_ | refine op2 ?_ | refine ob4 ?_ | refine ob2 (fun _ => ?_) | intro _ | simp only [List.set])
      refine reE ?_
      rw [List.take_of_length_le (by omega), List.take_of_length_le (by omega)] at g2
      simp [outOf, g2]⟩
instance fnPAt {d : List Ent} {i : Int} {xs : List AV} {id : Option Value} [hx : Ents xs d] : Ans Tryz.prog GL 84 [.agg 1 [.sl 2 xs id], int i] (d.length ≤ 1000000) (prfA (atP d i)) := ⟨fun hl => by
  have h := hx.out
  subst h
  refine spec_enter Tryz.func84 rfl Tryz.ntmps84 rfl (fun _ hs => ?_)
  repeat' (first | refine W ?_ | refine op2 ?_ | refine ob4 ?_ | refine ob2 (fun _ => ?_) | intro _ | simp only [List.set])
  refine reE ?_
  rfl⟩
theorem imp_zeroP : Imp (.tup [.agg 3 [int 0, int 0, .lit (.slice none 0 0)], boo false]) (.tup [prfA zeroP, boo false]) := (inferInstance : ImpR _ (.tup [.agg 3 [int 0, int 0, .sl 32 [] none], boo false])).imp
instance fnPMember {d : List Ent} {k : Bs} {xs : List AV} {id : Option Value} [hx : Ents xs d] : Ans Tryz.prog GL 35 [.agg 1 [.sl 2 xs id], str k] (d.length ≤ 1000000) (.tup [prfA (memP d (bsAt d k) (bsIs d k)), boo (bsIs d k)]) := ⟨fun hl => by
  have h := hx.out
  subst h
  refine spec_enter Tryz.func35 rfl Tryz.ntmps35 rfl (fun _ hs => ?_)
  repeat' (first | refine W ?_ | refine op2 ?_ | refine ob4 ?_ | refine ob2 (fun _ => ?_) | intro _ | simp only [List.set])
  cases hb : bsIs d k
  · repeat' (first | refine W ?_ | refine op2 ?_ | refine ob4 ?_ | refine ob2 (fun _ => ?_) | intro _ | simp only [List.set])
    refine reI ?_
    exact imp_zeroP
  · repeat' (first | refine W ?_ | refine op2 ?_ | refine ob4 ?_ | refine ob2 (fun _ => ?_) | intro _ | simp only [List.set])
    refine reE ?_
    rfl⟩
instance fnRMember {d : List Ent} {k : Bs} {xs : List AV} {id : Option Value} [hx : Ents xs d] : Ans Tryz.prog GL 21 [.sl 2 xs id, str k] (d.length ≤ 2000) (.tup [prfA (memP d (fndAt d k) (fndIs d k)), boo (fndIs d k)]) := ⟨fun hl => by
  have h := hx.out
  subst h
  refine spec_enter Tryz.func21 rfl Tryz.ntmps21 rfl (fun _ hs => ?_)
  repeat' (first | refine W ?_ | refine op2 ?_ | refine ob4 ?_ | refine ob2 (fun _ => ?_) | intro _ | simp only [List.set])
  cases hb : fndIs d k
  · repeat' (first | refine W ?_ | refine op2 ?_ | refine ob4 ?_ | refine ob2 (fun _ => ?_) | intro _ | simp only [List.set])
    refine reI ?_
    exact imp_zeroP
  · repeat' (first | refine W ?_ | refine op2 ?_ | refine ob4 ?_ | refine ob2 (fun _ => ?_) | intro _ | simp only [List.set])
    refine reE ?_
    simp [outOf, memP, atP]⟩
instance fnPHolds {root : Hsh} {a b : Bs} {i m : Int} {p : List Hsh} {xs : List AV} {id : Option Value} [hx : Hshs xs p] : Ans Tryz.prog GL 107 [hA root, .agg 2 [str a, str b], .agg 3 [int i, int m, .sl 32 xs id]] (m ≤ 9223372036854775807) (boo (holdsB root ⟨a, b⟩ ⟨i, m, p⟩)) := ⟨fun hl => by
  have h := hx.out
  subst h
  refine spec_enter Tryz.func107 rfl Tryz.ntmps107 rfl (fun _ hs => ?_)
  repeat' (first | refine W ?_ | refine op2 ?_ | refine ob4 ?_ | refine ob2 (fun _ => ?_) | intro _ | simp only [List.set])
  rw [holdsB]
  generalize foldH m i (leafH ⟨a, b⟩) p = o
  cases o
  · repeat' (first | refine W ?_ | refine op3 ?_ | refine ob5 ?_ | refine opE ?_ | refine obE ?_ | refine ob2 (fun _ => ?_) | intro _)
    refine reE ?_
    rfl
  · repeat' (first | refine W ?_ | refine op3 ?_ | refine ob5 ?_ | refine opE ?_ | refine obE ?_ | refine ob2 (fun _ => ?_) | intro _)
    refine reE ?_
    rfl⟩
end Go.Proofs.YtkijoddconipoaaGreatDoor

namespace Go.Proofs.YtkijoddconipoaaGreatDoor
open Go Go.RowKit Tw Av
instance fnPSame {xs ys : List AV} {id id2 : Option Value} {i m i2 m2 : Int} {p q : List Hsh} [hx : Hshs xs p] [hy : Hshs ys q] : Ans Tryz.prog GL 28 [.agg 3 [int i, int m, .sl 32 xs id], .agg 3 [int i2, int m2, .sl 32 ys id2]] (q.length ≤ 1073741823) (boo (decide (p = q) && (decide (i = i2) && decide (m = m2)))) := ⟨fun hl => by
  have h1 := hx.out
  have h2 := hy.out
  subst h1 h2
  refine spec_enter Tryz.func28 rfl Tryz.ntmps28 rfl (fun _ hs => ?_)
  repeat' (first | refine W ?_ | refine op2 ?_ | refine ob4 ?_ | refine ob2 (fun _ => ?_) | intro _ | simp only [List.set])
  cases hb : decide (p = q)
  · repeat' (first | refine W ?_ | refine op2 ?_ | refine ob4 ?_ | refine ob2 (fun _ => ?_) | intro _ | simp only [List.set] | refine gdT ?_ | refine gdF ?_ | refine cdT ?_ | refine cdF ?_ | fail)
    refine reE ?_
    simp [outOf]
  · by_cases hi : i = i2
    · repeat' (first | refine W ?_ | refine op2 ?_ | refine ob4 ?_ | refine ob2 (fun _ => ?_) | intro _ | simp only [List.set] | refine gdT ?_ | refine gdF ?_ | refine cdT ?_ | refine cdF ?_ | fail)
      refine reE ?_
      simp [outOf, hi]
    · repeat' (first | refine W ?_ | refine op2 ?_ | refine ob4 ?_ | refine ob2 (fun _ => ?_) | intro _ | simp only [List.set] | refine gdT ?_ | refine gdF ?_ | refine cdT ?_ | refine cdF ?_ | fail)
      refine reE ?_
      simp [outOf, hi]⟩
theorem blt_ge {a b : Bs} : (!(blt a b || decide (a = b))) = blt b a := by
  cases h1 : blt a b
  · by_cases h2 : a = b
    · subst h2
      simp [blt_irrefl]
    · cases h3 : blt b a
      · exact absurd (blt_total h1 h3) h2
      · simp [h2]
  · simp [blt_asymm h1]
theorem miss2 {a k : Bs} {g : Nat} {T : TypeId} : Av.Spec Tryz.prog GL 108 [str a, ptr g] [.var g T (str k)] fun u m => u = boo (blt a k) ∧ m = [.var g T (str k)] := by
  refine spec_enter Tryz.func108 rfl Tryz.ntmps108 rfl (fun _ hs => ?_)
  repeat' (first | refine W ?_ | refine op2 ?_ | refine ob4 ?_ | refine ob2 (fun _ => ?_) | intro _ | simp only [List.set])
  exact reK [.var g T (str k)] ⟨rfl, rfl⟩ (List.Sublist.refl _)
theorem miss3 {a k : Bs} {g : Nat} {T : TypeId} : Av.Spec Tryz.prog GL 109 [str a, ptr g] [.var g T (str k)] fun u m => u = boo (blt k a) ∧ m = [.var g T (str k)] := by
  refine spec_enter Tryz.func109 rfl Tryz.ntmps109 rfl (fun _ hs => ?_)
  repeat' (first | refine W ?_ | refine op2 ?_ | refine ob4 ?_ | refine ob2 (fun _ => ?_) | intro _ | simp only [List.set])
  refine reK [.var g T (str k)] ⟨?_, rfl⟩ (List.Sublist.refl _)
  rw [← blt_ge (a := a)]
  rfl
theorem miss1 {f : FuncId} [FnB Tryz.prog f] {root : Hsh} {k : Bs} {G : Gp} {l : List Ent} {p : Prf} {gk g5 g3 : Nat} {Tk : TypeId} {bes : Bs → Bool} (hb : ∀ a, Av.Spec Tryz.prog GL f [str a, ptr gk] [.var gk Tk (str k)] fun u m => u = boo (bes a) ∧ m = [.var gk Tk (str k)]) (hn : p.m ≤ 9223372036854775807) :
    Av.Spec Tryz.prog GL 106 [.sl 2 (l.map entA) none, prfA p, fnv f [.pointer (some ⟨gk, 0, none⟩)], ptr g5, ptr g3] [.var g5 57 (gpA G), .var gk Tk (str k), .var g3 33 (hA root)]
      fun u m => u = boo (sideB root G.n bes l p) ∧ m = [.var g5 57 (gpA G), .var gk Tk (str k), .var g3 33 (hA root)] := by
  refine spec_enter Tryz.func106 rfl Tryz.ntmps106 rfl (fun _ hs => ?_)
  rcases l with _ | ⟨x, _ | ⟨y, l⟩⟩
  · repeat' (first | refine W ?_ | refine op2 ?_ | refine ob4 ?_ | refine ob2 (fun _ => ?_) | intro _ | simp only [List.set] | refine gdT ?_ | refine gdF ?_ | refine cdT ?_ | refine cdF ?_ | fail)
    exact reK [.var g5 57 (gpA G), .var gk Tk (str k), .var g3 33 (hA root)] ⟨rfl, rfl⟩ (List.sublist_cons_self _ _)
  · repeat' (first | refine W ?_ | refine op2 ?_ | refine ob4 ?_ | refine ob2 (fun _ => ?_) | intro _ | simp only [List.set] | refine gdT ?_ | refine gdF ?_ | refine cdT ?_ | refine cdF ?_ | fail)
    apply obl_read [2]; exact rfl; exact rfl; kernel_rfl; intro s' hs'
    refine al_on ?_
    refine al_callV (args := [str x.key]) (cs := [.pointer (some ⟨gk, 0, none⟩)]) [.var gk Tk (str k)] _ (by rw [hs']; exact hb x.key) (fun u m1 hh => ?_) (List.Perm.refl _)
    obtain ⟨rfl, rfl⟩ := hh
    exact al_nil (ae_got rfl rfl)
    cases hbe : bes x.key
    · repeat' (first | refine W ?_ | refine op2 ?_ | refine ob4 ?_ | refine ob2 (fun _ => ?_) | intro _ | simp only [List.set] | refine gdT ?_ | refine gdF ?_ | refine cdT ?_ | refine cdF ?_ | fail)
      refine reK [.var g5 57 (gpA G), .var gk Tk (str k), .var g3 33 (hA root)] ⟨?_, rfl⟩ (List.sublist_cons_self _ _)
      simp [outOf, sideB, hbe]
    · by_cases hpm : p.m = G.n
      · repeat' (first | refine W ?_ | refine op2 ?_ | refine ob4 ?_ | refine ob2 (fun _ => ?_) | intro _ | simp only [List.set] | refine gdT ?_ | refine gdF ?_ | refine cdT ?_ | refine cdF ?_ | fail)
        rw [decide_eq_true hpm]
        repeat' (first | refine W ?_ | refine op2 ?_ | refine ob4 ?_ | refine ob2 (fun _ => ?_) | intro _ | simp only [List.set])
        refine reK [.var g5 57 (gpA G), .var gk Tk (str k), .var g3 33 (hA root)] ⟨?_, rfl⟩ (List.sublist_cons_self _ _)
        simp only [outOf, sideB, hbe, hpm, decide_true, Bool.true_and]
        rw [← hpm]
      · repeat' (first | refine W ?_ | refine op2 ?_ | refine ob4 ?_ | refine ob2 (fun _ => ?_) | intro _ | simp only [List.set] | refine gdT ?_ | refine gdF ?_ | refine cdT ?_ | refine cdF ?_ | fail)
        rw [decide_eq_false hpm]
        repeat' (first | refine W ?_ | refine op2 ?_ | refine ob4 ?_ | refine ob2 (fun _ => ?_) | intro _ | simp only [List.set])
        refine reK [.var g5 57 (gpA G), .var gk Tk (str k), .var g3 33 (hA root)] ⟨?_, rfl⟩ (List.sublist_cons_self _ _)
        simp [outOf, sideB, hbe, hpm]
  · repeat' (first | refine W ?_ | refine op2 ?_ | refine ob4 ?_ | refine ob2 (fun _ => ?_) | intro _ | simp only [List.set] | refine gdT ?_ | refine gdF ?_ | refine cdT ?_ | refine cdF ?_ | fail)
    refine reK [.var g5 57 (gpA G), .var gk Tk (str k), .var g3 33 (hA root)] ⟨?_, rfl⟩ (List.sublist_cons_self _ _)
    simp [outOf, sideB]
theorem at_nat {d : List Ent} {n : Nat} : (if (n : Int) < 0 then (⟨[], []⟩ : Ent) else d.getD (n : Int).toNat ⟨[], []⟩) = d.getD n ⟨[], []⟩ := by
  rw [if_neg (by omega), Int.toNat_natCast]
instance fnAbsent {d : List Ent} {k : Bs} {xs : List AV} {id : Option Value} [hx : Ents xs d] : Ans Tryz.prog GL 36 [.agg 1 [.sl 2 xs id], str k] (d.length ≤ 1000000) (.tup [gpA (absG d (bsAt d k) (bsIs d k)), boo (!bsIs d k)]) := ⟨fun hl => by
  have h := hx.out
  subst h
  refine spec_enter Tryz.func36 rfl Tryz.ntmps36 rfl (fun _ hs => ?_)
  repeat' (first | refine W ?_ | refine op2 ?_ | refine ob4 ?_ | refine ob2 (fun _ => ?_) | intro _ | simp only [List.set])
  cases hb : bsIs d k
  focus
    repeat' (first | refine W ?_ | refine op2 ?_ | refine ob4 ?_ | refine ob2 (fun _ => ?_) | intro _ | simp only [List.set])
    have hle := bsAt_le d k
    generalize bsAt d k = n at *
    have e2 : ∀ n : Nat, (((n + 1 : Nat) : Int) - 1) = n := fun n => by omega
    by_cases h1 : n < d.length
    all_goals
      rcases n with _ | n
      all_goals
        repeat' (first | refine W ?_ | refine op2 ?_ | refine ob4 ?_ | refine ob2 (fun _ => ?_) | intro _ | simp only [List.set] | refine gdT ?_ | refine gdF ?_ | refine cdT ?_ | refine cdF ?_ | fail)
        refine reI ?_
        simp only [outOf, e2, at_nat, absG, atP, gpA, prfA, zeroP, Nat.lt_irrefl, Nat.zero_lt_succ, Nat.add_sub_cancel, h1, if_true, if_false, List.map_cons, List.map_nil, Bool.not_false, Bool.false_eq_true]
        exact ImpR.imp
  focus
    repeat' (first | refine W ?_ | refine op2 ?_ | refine ob4 ?_ | refine ob2 (fun _ => ?_) | intro _ | simp only [List.set])
    refine reI ?_
    simp only [outOf, absG, gpA, prfA, if_true, zeroG, zeroP, List.map_nil, Bool.not_true]
    exact ImpR.imp⟩
end Go.Proofs.YtkijoddconipoaaGreatDoor
