/- The hash's methods, seals, clients: headers, checks. -/
import Derived.Test.YtkijoddconipoaaDoorP1
import Derived.Test.YtkijoddconipoaaDoorP2
import Derived.Test.YtkijoddconipoaaDoorP3
import Derived.Test.YtkijoddconipoaaDoorP4
import Derived.Test.YtkijoddconipoaaDoorQ1
import Derived.Test.YtkijoddconipoaaDoorQ2
import Derived.Test.YtkijoddconipoaaDoorK1
import Derived.Test.YtkijoddconipoaaDoorQ3
import Derived.Test.YtkijoddconipoaaDoorQ5
namespace Go.Proofs.YtkijoddconipoaaDoor
open Go Go.RowKit Tw Av
/-- a hasher that has come so far -/
def hshA (x : H8) (buf : Bs) (n : Nat) : AV := .agg 74 ((hsh x buf n).map fun v => .lit (id v))
theorem hsh_len74 {x : H8} {buf : Bs} {n : Nat} (hb : buf.length = 64) : (hsh x buf n).length = 74 := hsw_len _ _ _ rfl hb
theorem hshA_rc {ok : Ok} {w : World} {x : H8} {buf : Bs} {n : Nat} (hb : buf.length = 64) : RC ok w (hshA x buf n) (hsh x buf n) := by
  unfold hshA
  rw [RC]
  refine ⟨hsh_len74 hb, ?_⟩
  have h1 : ∀ v ∈ hsh x buf n, v.oneCell' = true := fun v hv => hsh_good x.words buf n v (by rw [(hsh_units _ _ _).fl]; exact hv)
  generalize hsh x buf n = l at h1
  induction l with
  | nil => rw [List.map_nil, RCs]
  | cons a l ih =>
    rw [List.map_cons, RCs]
    exact ⟨[a], l, rfl, by rw [RC]; exact ⟨rfl, h1 a (by simp)⟩, ih fun v hv => h1 v (by simp [hv])⟩
theorem hshA_cs {ok : Ok} {w : World} {x : H8} {buf : Bs} {n : Nat} {cs : List Value} (h : RC ok w (hshA x buf n) cs) : cs = fl (hsh x buf n) := by
  unfold hshA at h
  rw [RC] at h
  rw [(hsh_units _ _ _).fl, rcs_lits h.2]
  simp
theorem hnew : Av.Spec Tryd.prog GL 118 [] [] fun u m' => ∃ g, u = ptr g ∧ m' = [.var g 178 (hshA h0 (zeros 64) 0)] :=
  spec_new (vs := hsh h0 (zeros 64) 0) (fun ok w => by rw [(hsh_units _ _ _).fl]; exact hshA_rc rfl) fun ok w cargs hg hv => by
    obtain rfl := (show cargs = [] from hv)
    exact new_spec w (glo_of hg)
/-- what a hasher is behind a text -/
def Hashed (g : Nat) (M : Bs) (m : List Av.Piece) : Prop := ∃ x buf, HS M x buf ∧ m = [.var g 178 (hshA x buf M.length)]
theorem glob_ne {ok : Ok} {w : World} {g : Nat} (h : Glob GL ok w) (hn : ∀ j, ¬ ok g j) : g ≠ 0 ∧ g ≠ 2 := by
  refine ⟨?_, ?_⟩
  · rintro rfl
    obtain ⟨cs, h1, h2⟩ := h _ (by unfold GL; exact List.mem_cons_self)
    rw [RC] at h2
    have h3 := rcs_lits h2.2
    subst h3
    exact hn _ (h1 0 _ (by simp [H8.words]; rfl)).2
  · rintro rfl
    obtain ⟨cs, h1, h2⟩ := h (2, _) (by unfold GL; exact List.mem_cons_of_mem _ List.mem_cons_self)
    rw [RC] at h2
    have h3 := rcs_lits h2.2
    subst h3
    exact hn _ (h1 0 _ (by simp [kTab]; rfl)).2
theorem hwrite {g : Nat} {M s : Bs} {x : H8} {buf : Bs} (hH : HS M x buf) (hl : M.length + s.length ≤ 4611686018427387904) : Av.Spec Tryd.prog GL 119 [ptr g, str s] [.var g 178 (hshA x buf M.length)] fun u m' => u = .tup [] ∧ Hashed g (M ++ s) m' := by
  refine (spec_mod (R := fun v => ∃ x' buf', HS (M ++ s) x' buf' ∧ v = hshA x' buf' (M ++ s).length) (fun ok w cs h => hshA_cs h) fun ok w cargs hg hn hv hb => ?_).mono fun u m' hh => ?_
  · obtain ⟨u1, us, rfl, h1, rfl⟩ := hv
    rw [RV0.lit h1]
    obtain ⟨n1, n2⟩ := glob_ne hg hn
    refine (write_spec w g M x buf s (glo_of hg) n1 n2 hb hH hl).mono fun v w' hh => ?_
    obtain ⟨e, x', buf', h2, h3⟩ := hh
    exact ⟨e, _, _, ⟨x', buf', h2, rfl⟩, h3, fun ok w => by rw [(hsh_units _ _ _).fl]; exact hshA_rc h2.len⟩
  · obtain ⟨e, v', ⟨x', buf', h2, rfl⟩, e2⟩ := hh
    exact ⟨e, x', buf', h2, e2⟩
theorem hsum {g : Nat} {M : Bs} {x : H8} {buf : Bs} (hH : HS M x buf) (hl : M.length ≤ 1152921504606846976) : Av.Spec Tryd.prog GL 120 [ptr g] [.var g 178 (hshA x buf M.length)] fun u m' => u = hA (shaH M) ∧ m' = [.var g 178 (hshA x buf M.length)] :=
  spec_get (fun ok w cs h => hshA_cs h) fun ok w cargs hg hv hb => by
    obtain rfl := (show cargs = [] from hv)
    exact (sum_spec w g M x buf (glo_of hg) hb hH hl).mono fun v w' hh => ⟨fun ok w => by rw [hh.1]; exact RV_hA _, hh.2⟩
end Go.Proofs.YtkijoddconipoaaDoor

namespace Go.Proofs.YtkijoddconipoaaDoor
open Go Go.RowKit Tw Av
structure Sta where
  h : Int
  t : Int
  r : Hsh
deriving DecidableEq
structure Hdr where
  c : Bs
  h : Int
  t : Int
  r : Hsh
deriving DecidableEq
structure Cli where
  c : Bs
  k : Bs
  p : Int
  f : Bool
  l : List Sta
deriving DecidableEq
abbrev staA (x : Sta) : AV := .agg 34 [int x.h, int x.t, hA x.r]
abbrev hdrA (x : Hdr) : AV := .agg 35 [str x.c, int x.h, int x.t, hA x.r]
abbrev cliA (x : Cli) : AV := .agg 5 [str x.c, str x.k, int x.p, boo x.f, .sl 34 (x.l.map staA) none]
class Stas (xs : List AV) (l : outParam (List Sta)) : Prop where
  out : xs = l.map staA
instance : Stas [] [] := ⟨rfl⟩
instance {a b : Int} {r : Hsh} {xs : List AV} {l : List Sta} [h : Stas xs l] : Stas (.agg 34 [int a, int b, hA r] :: xs) (⟨a, b, r⟩ :: l) := ⟨by rw [h.out]; rfl⟩
instance {l : List Sta} : Stas (l.map staA) l := ⟨rfl⟩
instance {xs : List AV} {l : List Sta} {i : Nat} [h : Stas xs l] : Stas (xs.take i) (l.take i) := ⟨by rw [h.out, List.map_take]⟩
instance {xs : List AV} {l : List Sta} {i : Nat} [h : Stas xs l] : Stas (xs.drop i) (l.drop i) := ⟨by rw [h.out, List.map_drop]⟩
instance {xs ys : List AV} {l k : List Sta} [h : Stas xs l] [g : Stas ys k] : Stas (xs ++ ys) (l ++ k) := ⟨by rw [h.out, g.out, List.map_append]⟩
def zeroS : Sta := ⟨0, 0, zeroH⟩
def zeroC : Cli := ⟨[], [], 0, false, []⟩
def stOf (x : Hdr) : Sta := ⟨x.h, x.t, x.r⟩
def hdOf (c : Bs) (s : Sta) : Hdr := ⟨c, s.h, s.t, s.r⟩
def chkH (x : Hdr) : Bool := decide (1 ≤ x.c.length ∧ x.c.length ≤ 32 ∧ 1 ≤ x.h ∧ x.h ≤ 1099511627776 ∧ 0 ≤ x.t ∧ x.t ≤ 1099511627776)
def hdrB (x : Hdr) : Bs := tlvT 99 x.c ++ tlvI 104 x.h ++ tlvI 116 x.t ++ tlvT 114 x.r.l
/-- a key's block -/
def keyB (k : Bs) : Bs := copyB (zeros 64) (if 64 < k.length then (shaH k).l else k)
def xorB (c : UInt8) (l : Bs) : Bs := l.map (· ^^^ c)
def sealH (k s : Bs) : Hsh := shaH (xorB 92 (keyB k) ++ (shaH (xorB 54 (keyB k) ++ s)).l)
def sealOf (k : Bs) (x : Hdr) : Hsh := sealH k (hdrB x)
/-- may one stand behind the other? -/
def fol (a b : Sta) : Bool := decide (a.h < b.h ∧ a.t ≤ b.t)
def mayAt (c : Bs) (l : List Sta) (i : Nat) : Bool := chkH (hdOf c (l.getD i zeroS)) && (decide (i = 0) || fol (l.getD (i - 1) zeroS) (l.getD i zeroS))
def mayC (x : Cli) : Bool := decide (x.k.length ≤ 64 ∧ 1 ≤ x.p ∧ x.p ≤ 1099511627776 ∧ 1 ≤ x.l.length ∧ x.l.length ≤ 32) && (List.range x.l.length).all (mayAt x.c x.l)
def newC (k : Bs) (p : Int) (x : Hdr) : Cli := ⟨x.c, k, p, false, [stOf x]⟩
def newE (k : Bs) (p : Int) (x : Hdr) : Int := if mayC (newC k p x) = true then 0 else 1
def newR (k : Bs) (p : Int) (x : Hdr) : Cli := if mayC (newC k p x) = true then newC k p x else zeroC
def latC (l : List Sta) : Sta := l.getLastD zeroS
def actC (x : Cli) (now : Int) : Bool := !x.f && decide (now < (latC x.l).t + x.p)
def atI (l : List Sta) (h : Int) : Nat := l.findIdx fun s => decide (h ≤ s.h)
def atIs (l : List Sta) (h : Int) : Bool := decide (atI l h < l.length ∧ (l.getD (atI l h) zeroS).h = h)
def findC (l : List Sta) (h : Int) : Option Sta := if atIs l h = true then some (l.getD (atI l h) zeroS) else none
def badAt (l : List Sta) (s : Sta) (i : Nat) : Bool := (decide (0 < i) && !fol (l.getD (i - 1) zeroS) s) || (decide (i < l.length) && !fol s (l.getD i zeroS))
def frz (x : Cli) : Cli := { x with f := true }
def insS (l : List Sta) (s : Sta) : List Sta := (l.take (atI l s.h) ++ s :: l.drop (atI l s.h)).drop (l.length + 1 - 32)
def putC (x : Cli) (s : Sta) : Cli :=
  if atIs x.l s.h = true ∧ x.l.getD (atI x.l s.h) zeroS = s then x
  else if atIs x.l s.h = true ∨ badAt x.l s (atI x.l s.h) = true then frz x
  else { x with l := insS x.l s }
def updE (x : Cli) (h : Hdr) (mac : Hsh) (now : Int) : Int :=
  if actC x now = false then 19 else if chkH h = false ∨ h.c ≠ x.c then 1 else if sealOf x.k h ≠ mac then 18 else 0
def updC (x : Cli) (h : Hdr) (mac : Hsh) (now : Int) : Cli := if updE x h mac now = 0 then putC x (stOf h) else zeroC
/-! the document's -/
def findR (l : List Sta) (h : Int) : Option Sta := l.find? fun s => decide (s.h = h)
def hits (s x : Sta) : Bool := decide ((x.h < s.h ∧ s.t < x.t) ∨ (s.h < x.h ∧ x.t < s.t))
def stepU (s : Sta) : Option (List Sta × Bool) → Sta → Option (List Sta × Bool)
  | none, _ => none
  | some (acc, put), x => if hits s x = true then none else if put = false ∧ s.h < x.h then some (acc ++ [s] ++ [x], true) else some (acc ++ [x], put)
def insR (l : List Sta) (s : Sta) : Option (List Sta) := match l.foldl (stepU s) (some ([], false)) with
  | none => none
  | some (acc, true) => some acc
  | some (acc, false) => some (acc ++ [s])
def cutR (l : List Sta) : List Sta := if 32 < l.length then l.drop 1 else l
def putCR (x : Cli) (s : Sta) : Cli := match findR x.l s.h with
  | some o => if o = s then x else frz x
  | none => match insR x.l s with
    | none => frz x
    | some l => { x with l := cutR l }
/-! one and the same -/
def Rise (l : List Sta) : Prop := l.Pairwise fun a b => a.h < b.h ∧ a.t ≤ b.t
theorem Rise.cons {a : Sta} {l : List Sta} : Rise (a :: l) ↔ (∀ b ∈ l, a.h < b.h ∧ a.t ≤ b.t) ∧ Rise l := List.pairwise_cons
theorem atI_cons (a : Sta) (l : List Sta) (h : Int) : atI (a :: l) h = if h ≤ a.h then 0 else atI l h + 1 := by
  unfold atI
  rw [List.findIdx_cons]
  by_cases hh : h ≤ a.h <;> simp [hh]
theorem atI_le (l : List Sta) (h : Int) : atI l h ≤ l.length := List.findIdx_le_length
/-- the row in two: those below, those not below -/
theorem at_parts : ∀ {l : List Sta} (h : Int), Rise l → (∀ x ∈ l.take (atI l h), x.h < h) ∧ (∀ x ∈ l.drop (atI l h), h ≤ x.h)
  | [], h, _ => by simp
  | a :: l, h, hr => by
    rw [Rise.cons] at hr
    rw [atI_cons]
    by_cases hh : h ≤ a.h
    · rw [if_pos hh]
      refine ⟨by simp, fun x hx => ?_⟩
      rw [List.drop_zero] at hx
      rcases List.mem_cons.1 hx with rfl | hx
      · exact hh
      · have := (hr.1 x hx).1
        omega
    · rw [if_neg hh]
      obtain ⟨h1, h2⟩ := at_parts h hr.2
      refine ⟨fun x hx => ?_, fun x hx => ?_⟩
      · rw [List.take_succ_cons] at hx
        rcases List.mem_cons.1 hx with rfl | hx
        · omega
        · exact h1 x hx
      · rw [List.drop_succ_cons] at hx
        exact h2 x hx
theorem findR_eq : ∀ {l : List Sta} (h : Int), Rise l → findR l h = findC l h
  | [], h, _ => by simp [findR, findC, atIs, atI]
  | a :: l, h, hr => by
    have hr' := hr
    rw [Rise.cons] at hr
    have ih := findR_eq h hr.2
    unfold findR findC atIs at ih ⊢
    rw [List.find?_cons, atI_cons]
    by_cases hh : h ≤ a.h
    · rw [if_pos hh]
      by_cases he : a.h = h
      · simp [he]
      · have hn : l.find? (fun s => decide (s.h = h)) = none := by
          rw [List.find?_eq_none]
          intro x hx
          have := (hr.1 x hx).1
          simp
          omega
        simp [he, hn]
    · rw [if_neg hh]
      have he : ¬ a.h = h := by omega
      simp only [he, decide_false, ih]
      simp
theorem stepU_some {s x : Sta} {acc : List Sta} {put : Bool} : stepU s (some (acc, put)) x = if hits s x = true then none else if put = false ∧ s.h < x.h then some (acc ++ [s] ++ [x], true) else some (acc ++ [x], put) := rfl
theorem fold_none {s : Sta} : ∀ l : List Sta, l.foldl (stepU s) none = none
  | [] => rfl
  | x :: l => by rw [List.foldl_cons]; exact fold_none l
theorem fold_below {s : Sta} : ∀ (A : List Sta) (acc : List Sta), (∀ x ∈ A, x.h < s.h) → A.foldl (stepU s) (some (acc, false)) = if ∀ x ∈ A, x.t ≤ s.t then some (acc ++ A, false) else none
  | [], acc, _ => by simp
  | x :: A, acc, h => by
    have hx := h x (by simp)
    have ih := fold_below A (acc ++ [x]) (fun y hy => h y (by simp [hy]))
    rw [List.foldl_cons, stepU_some]
    by_cases ht : x.t ≤ s.t
    · have h1 : hits s x = false := by simp [hits]; omega
      rw [h1, if_neg (by simp), if_neg (by omega), ih]
      simp [ht]
    · have h1 : hits s x = true := by simp [hits]; omega
      rw [h1, if_pos rfl, fold_none, if_neg (fun hall => ht (hall x (by simp)))]
theorem fold_above {s : Sta} : ∀ (B : List Sta) (acc : List Sta), (∀ x ∈ B, s.h < x.h ∧ s.t ≤ x.t) → B.foldl (stepU s) (some (acc, true)) = some (acc ++ B, true)
  | [], acc, _ => by simp
  | x :: B, acc, h => by
    obtain ⟨h1, h2⟩ := h x (by simp)
    have h3 : hits s x = false := by simp [hits]; omega
    rw [List.foldl_cons, stepU_some]
    rw [h3, if_neg (by simp), if_neg (by simp), fold_above B _ (fun y hy => h y (by simp [hy]))]
    simp
theorem Rise.append {a b : List Sta} : Rise (a ++ b) ↔ Rise a ∧ Rise b ∧ ∀ x ∈ a, ∀ y ∈ b, x.h < y.h ∧ x.t ≤ y.t := List.pairwise_append
theorem at_above {l : List Sta} {s : Sta} (hr : Rise l) (hn : atIs l s.h = false) : ∀ x ∈ l.drop (atI l s.h), s.h < x.h := by
  obtain ⟨_, p2⟩ := at_parts s.h hr
  generalize hi : atI l s.h = i at *
  intro x hx
  have h1 := p2 x hx
  rcases Int.lt_or_eq_of_le h1 with h | h
  · exact h
  · exfalso
    have hlt : i < l.length := by
      rcases Nat.lt_or_ge i l.length with h | h
      · exact h
      · rw [List.drop_of_length_le h] at hx; cases hx
    rw [List.drop_eq_getElem_cons hlt] at hx p2
    have h0 : (l.getD i zeroS).h = s.h := by
      have hg : l.getD i zeroS = l[i] := by simp [List.getD, hlt]
      rw [hg]
      have h3 := p2 l[i] List.mem_cons_self
      rcases List.mem_cons.1 hx with rfl | hx
      · omega
      · have hr2 : Rise (l.take i ++ (l[i] :: l.drop (i + 1))) := by rw [← List.drop_eq_getElem_cons hlt, List.take_append_drop]; exact hr
        have := ((Rise.cons.1 (Rise.append.1 hr2).2.1).1 x hx).1
        omega
    simp [atIs, hi, hlt] at hn
    rw [List.getD, List.getElem?_eq_getElem hlt] at h0
    exact hn (by simpa using h0)
theorem bad_iff {l : List Sta} {s : Sta} (hr : Rise l) (hn : atIs l s.h = false) : badAt l s (atI l s.h) = true ↔ (∃ x ∈ l.take (atI l s.h), s.t < x.t) ∨ (∃ x ∈ l.drop (atI l s.h), x.t < s.t) := by
  obtain ⟨p1, _⟩ := at_parts s.h hr
  have p3 := at_above hr hn
  have hle := atI_le l s.h
  have rB : Rise (l.drop (atI l s.h)) := hr.sublist (List.drop_sublist _ _)
  generalize hi : atI l s.h = i at *
  unfold badAt
  rw [Bool.or_eq_true]
  refine or_congr ?_ ?_
  · rw [Bool.and_eq_true, decide_eq_true_eq]
    constructor
    · rintro ⟨h0, h1⟩
      have hlt : i - 1 < l.length := by omega
      have hg : l.getD (i - 1) zeroS = l[i - 1] := by simp [List.getD, hlt]
      have hm : l[i - 1] ∈ l.take i := List.mem_take_iff_getElem.2 ⟨i - 1, by omega, rfl⟩
      have h2 := p1 _ hm
      rw [hg] at h1
      refine ⟨_, hm, ?_⟩
      simp [fol] at h1
      omega
    · rintro ⟨x, hx, ht⟩
      obtain ⟨j, hj, rfl⟩ := List.mem_take_iff_getElem.1 hx
      have h0 : 0 < i := by omega
      have hlt : i - 1 < l.length := by omega
      have hg : l.getD (i - 1) zeroS = l[i - 1] := by simp [List.getD, hlt]
      refine ⟨h0, ?_⟩
      rw [hg]
      have h2 : l[j].t ≤ l[i - 1].t := by
        rcases Nat.lt_or_ge j (i - 1) with h | h
        · exact ((List.pairwise_iff_getElem.1 hr) j (i - 1) (by omega) hlt h).2
        · have : j = i - 1 := by omega
          subst this
          exact Int.le_refl _
      simp [fol]
      omega
  · rw [Bool.and_eq_true, decide_eq_true_eq]
    constructor
    · rintro ⟨hlt, h1⟩
      have hg : l.getD i zeroS = l[i] := by simp [List.getD, hlt]
      have hm : l[i] ∈ l.drop i := by rw [List.drop_eq_getElem_cons hlt]; exact List.mem_cons_self
      have h2 := p3 _ hm
      rw [hg] at h1
      refine ⟨_, hm, ?_⟩
      simp [fol] at h1
      omega
    · rintro ⟨x, hx, ht⟩
      have hlt : i < l.length := by
        rcases Nat.lt_or_ge i l.length with h | h
        · exact h
        · rw [List.drop_of_length_le h] at hx; cases hx
      have hg : l.getD i zeroS = l[i] := by simp [List.getD, hlt]
      refine ⟨hlt, ?_⟩
      rw [hg]
      have h2 : l[i].t ≤ x.t := by
        rw [List.drop_eq_getElem_cons hlt] at hx rB
        rcases List.mem_cons.1 hx with rfl | hx
        · exact Int.le_refl _
        · exact ((Rise.cons.1 rB).1 x hx).2
      simp [fol]
      omega
theorem insR_eq {l : List Sta} {s : Sta} (hr : Rise l) (hn : atIs l s.h = false) : insR l s = if badAt l s (atI l s.h) = true then none else some (l.take (atI l s.h) ++ s :: l.drop (atI l s.h)) := by
  obtain ⟨p1, p2⟩ := at_parts s.h hr
  have hle := atI_le l s.h
  have p3 := at_above hr hn
  have hbad := bad_iff hr hn
  generalize hi : atI l s.h = i at *
  have hl : l = l.take i ++ l.drop i := (List.take_append_drop i l).symm
  have hr2 : Rise (l.take i ++ l.drop i) := by rw [← hl]; exact hr
  obtain ⟨rA, rB, rAB⟩ := Rise.append.1 hr2
  have hfold : l.foldl (stepU s) (some ([], false)) = (l.drop i).foldl (stepU s) ((l.take i).foldl (stepU s) (some ([], false))) := by
    rw [← List.foldl_append, List.take_append_drop]
  unfold insR
  rw [hfold, fold_below _ _ p1, List.nil_append]
  by_cases hA : ∀ x ∈ l.take i, x.t ≤ s.t
  · rw [if_pos hA]
    generalize hB : l.drop i = B at *
    cases B with
    | nil =>
      have : badAt l s i = false := by
        rw [← Bool.not_eq_true, hbad]
        rintro (⟨x, hx, ht⟩ | ⟨x, hx, _⟩)
        · have := hA x hx; omega
        · cases hx
      rw [this]
      rfl
    | cons b B =>
      rw [List.foldl_cons, stepU_some]
      have hb := p3 b (by simp)
      by_cases ht : s.t ≤ b.t
      · have h1 : hits s b = false := by simp [hits]; omega
        have h2 : badAt l s i = false := by
          rw [← Bool.not_eq_true, hbad]
          rintro (⟨x, hx, h⟩ | ⟨x, hx, h⟩)
          · have := hA x hx; omega
          · rcases List.mem_cons.1 hx with rfl | hx
            · omega
            · have := ((Rise.cons.1 rB).1 x hx).2
              omega
        rw [h2, h1, if_neg (by simp), if_pos ⟨rfl, hb⟩]
        have := fold_above B (l.take i ++ [s] ++ [b]) (fun x hx => ⟨p3 x (by simp [hx]), by have := ((Rise.cons.1 rB).1 x hx).2; omega⟩)
        rw [this]
        simp
      · have h1 : hits s b = true := by simp [hits]; omega
        have h2 : badAt l s i = true := hbad.2 (.inr ⟨b, by simp, by omega⟩)
        rw [h2, h1, if_pos rfl]
        rw [fold_none]
        rfl
  · rw [if_neg hA, fold_none]
    have h2 : badAt l s i = true := hbad.2 (.inl (by
      simp only [Classical.not_forall] at hA
      obtain ⟨x, hx, h⟩ := hA
      exact ⟨x, hx, by omega⟩))
    rw [h2]
    rfl
theorem putCR_eq {x : Cli} {s : Sta} (hr : Rise x.l) (hl : x.l.length ≤ 32) : putCR x s = putC x s := by
  unfold putCR putC
  rw [findR_eq _ hr]
  unfold findC
  by_cases h1 : atIs x.l s.h = true
  · rw [if_pos h1]
    by_cases h2 : x.l.getD (atI x.l s.h) zeroS = s
    · simp [h1]
    · simp [h1]
  · have h1' : atIs x.l s.h = false := by simpa using h1
    rw [if_neg h1]
    simp only [insR_eq hr h1']
    by_cases h3 : badAt x.l s (atI x.l s.h) = true
    · simp [h1', h3]
    · have hle := atI_le x.l s.h
      have hlen : (x.l.take (atI x.l s.h) ++ s :: x.l.drop (atI x.l s.h)).length = x.l.length + 1 := by simp; omega
      rw [if_neg h3, if_neg (by simp [h1']), if_neg (by simp [h1', h3])]
      simp only [cutR, hlen, insS]
      by_cases h4 : 32 < x.l.length + 1
      · rw [if_pos h4, show x.l.length + 1 - 32 = 1 by omega]
      · rw [if_neg h4, show x.l.length + 1 - 32 = 0 by omega, List.drop_zero]
/-- what is kept -/
theorem Rise.ins {l : List Sta} {s : Sta} (hr : Rise l) (hn : atIs l s.h = false) (hb : badAt l s (atI l s.h) = false) : Rise (l.take (atI l s.h) ++ s :: l.drop (atI l s.h)) := by
  obtain ⟨p1, _⟩ := at_parts s.h hr
  have p3 := at_above hr hn
  have hbad := bad_iff hr hn
  rw [hb] at hbad
  generalize atI l s.h = i at *
  have hr2 : Rise (l.take i ++ l.drop i) := by rw [List.take_append_drop]; exact hr
  obtain ⟨rA, rB, rAB⟩ := Rise.append.1 hr2
  refine Rise.append.2 ⟨rA, Rise.cons.2 ⟨fun b hb => ⟨p3 b hb, ?_⟩, rB⟩, fun a ha b hb => ?_⟩
  · rcases Int.lt_or_le b.t s.t with h | h
    · exact absurd (hbad.2 (.inr ⟨b, hb, h⟩)) (by simp)
    · exact h
  · rcases List.mem_cons.1 hb with rfl | hb
    · refine ⟨p1 a ha, ?_⟩
      rcases Int.lt_or_le b.t a.t with h | h
      · exact absurd (hbad.2 (.inl ⟨a, ha, h⟩)) (by simp)
      · exact h
    · exact rAB a ha b hb
attribute [irreducible] chkH fol atIs badAt mayC actC hits
end Go.Proofs.YtkijoddconipoaaDoor

namespace Go.Proofs.YtkijoddconipoaaDoor
open Go Go.RowKit Tw Av
theorem keyB_len (k : Bs) : (keyB k).length = 64 := by rw [keyB, copyB_len]; simp [zeros]
theorem ofH1 (a : Bs) : ofH [a] = shaH a := by simp [ofH]
theorem ofH2 (a b : Bs) : ofH [a, b] = shaH (a ++ b) := by simp [ofH]
abbrev kbA (l : Bs) : AV := .agg 64 (l.map u8A)
instance fnSBlock {k : Bs} : Ans Tryd.prog GL 156 [str k] (k.length ≤ 1000000) (kbA (keyB k)) := ⟨fun hk => by
  refine spec_enter Tryd.func156 rfl Tryd.ntmps156 rfl (fun _ hs => ?_)
  repeat' (first | refine W ?_ | refine op2 ?_ | refine ob4 ?_ | refine ob2 (fun _ => ?_) | intro _ | simp only [List.set])
  refine ac_cond (fun h1 => ?_) (fun h1 => ?_)
  · have : LenLe k 1000000 := ⟨hk⟩
    repeat' (first | refine W ?_ | refine op2 ?_ | refine ob4 ?_ | refine ob2 (fun _ => ?_) | intro _ | simp only [List.set])
    rw [ofH1]
    refine al_copyS (l := zeros 64) (a := (shaH k).l) rfl ?_
    repeat' (first | refine W ?_ | refine op2 ?_ | refine ob4 ?_ | refine ob2 (fun _ => ?_) | intro _ | simp only [List.set])
    refine reE ?_
    rw [keyB, if_pos (by omega)]
    rfl
  · repeat' (first | refine W ?_ | refine op2 ?_ | refine ob4 ?_ | refine ob2 (fun _ => ?_) | intro _ | simp only [List.set])
    refine al_copyS (l := zeros 64) (a := k) rfl ?_
    repeat' (first | refine W ?_ | refine op2 ?_ | refine ob4 ?_ | refine ob2 (fun _ => ?_) | intro _ | simp only [List.set])
    refine reE ?_
    rw [keyB, if_neg (by omega)]
    rfl⟩
theorem put1 {g : Nat} {a b : UInt8} {T : TypeId} : Av.Spec Tryd.prog GL 165 [u8A a, ptr g] [.var g T (u8A b)] fun u m => u = u8A (a ^^^ b) ∧ m = [.var g T (u8A b)] := by
  refine spec_enter Tryd.func165 rfl Tryd.ntmps165 rfl (fun _ hs => ?_)
  repeat' (first | refine W ?_ | refine op2 ?_ | refine ob4 ?_ | refine ob2 (fun _ => ?_) | intro _ | simp only [List.set])
  exact reK [.var g T (u8A b)] ⟨rfl, rfl⟩ (List.Sublist.refl _)
theorem xor_next {l : Bs} {b : UInt8} {i : Nat} (h : i < l.length) : (xorB b (l.take i) ++ l.drop i).set i (l[i] ^^^ b) = xorB b (l.take (i + 1)) ++ l.drop (i + 1) := by
  have h1 : (xorB b (l.take i)).length = i := by simp [xorB]; omega
  rw [List.set_append, if_neg (by omega), h1, Nat.sub_self, List.drop_eq_getElem_cons h, List.set_cons_zero, List.take_succ_eq_append_getElem h, xorB, xorB, List.map_append, List.append_assoc]
  rfl
theorem sput {l : Bs} (hl : l.length = 64) (b : UInt8) (B : Int) (hB : B = b.toNat) : SpecE Tryd.prog GL 157 [kbA l, .lit (.int .u8 B)] (str (xorB b l)) := by
  subst hB
  refine spec_enter Tryd.func157 rfl Tryd.ntmps157 rfl (fun _ hs => ?_)
  repeat' (first | refine W ?_ | refine op2 ?_ | refine ob4 ?_ | refine ob2 (fun _ => ?_) | intro _ | simp only [List.set])
  rename_i g2 g3
  refine al_makeFunc (vs := [.pointer (some ⟨g3, 0, none⟩)]) ?_
  repeat' (first | refine W ?_ | refine op2 ?_ | refine ob4 ?_ | refine ob2 (fun _ => ?_) | intro _ | simp only [List.set])
  refine ac_loop (α := Nat) (fun i => [(2, ptr g2), (5, fnv 165 [.pointer (some ⟨g3, 0, none⟩)]), (9, kbA l), (10, int i)])
    (fun i => [.var g3 5 (u8A b), .var g2 176 (kbA (xorB b (l.take i) ++ l.drop i))]) (fun i => i ≤ 64) (fun i => 64 - i) 0 ⟨rfl, rfl, rfl, rfl, trivial⟩ ?_ (Nat.zero_le _) ?_
  · repeat (first | exact List.nil_sublist _ | exact List.Sublist.refl _ | apply List.Sublist.cons_cons | apply List.Sublist.cons)
  intro i hi
  have hlen : (xorB b (l.take i) ++ l.drop i).length = 64 := by simp [xorB]; omega
  repeat' (first | refine W ?_ | refine op2 ?_ | refine ob4 ?_ | refine ob2 (fun _ => ?_) | intro _ | simp only [List.set])
  refine ac_cond (fun hlt => ?_) (fun hlt => ?_)
  · have hil : i < l.length := by omega
    repeat' (first | refine W ?_ | refine op2 ?_ | refine ob4 ?_ | refine ob2 (fun _ => ?_) | intro _ | simp only [List.set])
    refine al_index (ps := l.map u8A) (u := u8A l[i]) i ?_ rfl (by omega) (by simp [hil]) (by intro p hp; obtain ⟨c, _, rfl⟩ := List.mem_map.1 hp; rfl) rfl
    repeat' (first | refine W ?_ | refine op2 ?_ | refine ob4 ?_ | refine ob2 (fun _ => ?_) | intro _ | simp only [List.set])
    refine al_callV (args := [u8A l[i]]) (cs := [.pointer (some ⟨g3, 0, none⟩)]) [.var g3 5 (u8A b)] _ (by rw [hs]; exact put1) (fun u m1 hh => ?_) (List.Perm.refl _)
    obtain ⟨rfl, rfl⟩ := hh
    repeat' (first | refine W ?_ | refine op2 ?_ | refine ob4 ?_ | refine ob2 (fun _ => ?_) | intro _ | simp only [List.set])
    refine al_idxA i ?_
    refine al_storeE (j := i) (ps := (xorB b (l.take i) ++ l.drop i).map u8A) (by simp only [List.length_map]; omega) ?_
    repeat' (first | refine W ?_ | refine op2 ?_ | refine ob4 ?_ | refine ob2 (fun _ => ?_) | intro _ | simp only [List.set])
    rw [show ((xorB b (l.take i) ++ l.drop i).map u8A).set i (u8A (l[i] ^^^ b)) = ((xorB b (l.take i) ++ l.drop i).set i (l[i] ^^^ b)).map u8A by rw [List.map_set], xor_next hil]
    refine ae_round (i + 1) ⟨rfl, rfl, rfl, rfl, trivial⟩ ?_ (by omega) (by omega)
    repeat (first | exact List.nil_sublist _ | exact List.Sublist.refl _ | apply List.Sublist.cons_cons | apply List.Sublist.cons)
  · obtain rfl : i = 64 := by omega
    rw [List.take_of_length_le (by omega), List.drop_of_length_le (by omega), List.append_nil]
    repeat' (first | refine W ?_ | refine op2 ?_ | refine ob4 ?_ | refine ob2 (fun _ => ?_) | intro _ | simp only [List.set])
    refine reE ?_
    rfl
theorem ImpC.one {n : Nat} {ps : List AV} : ImpC (.agg n [.agg n ps]) (.agg n ps) := fun ok w cs h => by
  rw [RC] at h
  obtain ⟨h1, h2⟩ := h
  rw [RCs] at h2
  obtain ⟨c1, c2, rfl, h3, h4⟩ := h2
  rw [RCs] at h4
  subst h4
  rwa [List.append_nil]
theorem snew {k : Bs} (hk : k.length ≤ 1000000) : Av.Spec Tryd.prog GL 142 [str k] [] fun u m => ∃ g, u = ptr g ∧ m = [.var g 202 (kbA (keyB k))] := by
  refine spec_enter Tryd.func142 rfl Tryd.ntmps142 rfl (fun _ hs => ?_)
  repeat' (first | refine W ?_ | refine op2 ?_ | refine ob4 ?_ | refine ob2 (fun _ => ?_) | intro _ | simp only [List.set])
  rename_i g
  refine ae_asV (g := g) (v' := kbA (keyB k)) ImpC.one ?_
  exact reK [.var g 202 (kbA (keyB k))] ⟨g, rfl, rfl⟩ (List.Sublist.refl _)
theorem xorB_len (b : UInt8) (l : Bs) : (xorB b l).length = l.length := List.length_map _
theorem flat_next {l : List Bs} {i : Nat} (h : i < l.length) : (l.take (i + 1)).flatten = (l.take i).flatten ++ l[i] := by
  rw [List.take_succ_eq_append_getElem h, List.flatten_append]
  simp
theorem flat_le {l : List Bs} (i : Nat) : (l.take i).flatten.length ≤ l.flatten.length := by
  have h := congrArg (fun q => (List.flatten q).length) (List.take_append_drop i l)
  simp only [List.flatten_append, List.length_append] at h
  omega
theorem sseal {g : Nat} {kb : Bs} {l : List Bs} {id : Option Value} (hk : kb.length = 64) (hl : l.flatten.length ≤ 1000000000000) (hn : l.length ≤ 1000000000000) : Av.Spec Tryd.prog GL 143 [ptr g, .sl 1 (l.map str) id] [.var g 202 (kbA kb)] fun u m => u = hA (shaH (xorB 92 kb ++ (shaH (xorB 54 kb ++ l.flatten)).l)) ∧ m = [] := by
  have hlm : (l.map str).length = l.length := List.length_map _
  refine spec_enter Tryd.func143 rfl Tryd.ntmps143 rfl (fun _ hs => ?_)
  repeat' (first | refine W ?_ | refine op2 ?_ | refine ob4 ?_ | refine ob2 (fun _ => ?_) | intro _ | simp only [List.set])
  refine al_callK [] _ (by rw [hs]; exact hnew) (fun u m1 hh => ?_) (List.Perm.refl _)
  obtain ⟨gh, rfl, rfl⟩ := hh
  repeat' (first | refine W ?_ | refine op2 ?_ | refine ob4 ?_ | refine ob2 (fun _ => ?_) | intro _ | simp only [List.set])
  refine al_callK [] _ (by rw [hs]; exact sput hk 54 54 rfl) (fun u m1 hh => ?_) (List.Perm.refl _)
  obtain ⟨rfl, rfl⟩ := hh
  refine al_callK [.var gh 178 (hshA h0 (zeros 64) 0)] _ (by rw [hs]; exact hwrite (M := []) (s := xorB 54 kb) HS.nil (by simp [xorB_len]; omega)) (fun u m1 hh => ?_) (List.Perm.refl _)
  obtain ⟨rfl, x0, b0, hH0, rfl⟩ := hh
  rw [List.nil_append] at hH0 ⊢
  repeat' (first | refine W ?_ | refine op2 ?_ | refine ob4 ?_ | refine ob2 (fun _ => ?_) | intro _ | simp only [List.set])
  rename_i g4 g5
  refine ac_loop (α := Nat × H8 × Bs) (fun q => [(4, ptr g4), (5, ptr g5), (6, ptr gh), (20, .sl 1 (l.map str) id), (21, int (l.map str).length), (22, int q.1)])
    (fun q => [.var gh 178 (hshA q.2.1 q.2.2 (xorB 54 kb ++ (l.take q.1).flatten).length), .var g5 176 (kbA kb), .var g4 24 (hA zeroH)]) (fun q => q.1 ≤ l.length ∧ HS (xorB 54 kb ++ (l.take q.1).flatten) q.2.1 q.2.2) (fun q => l.length - q.1) (0, x0, b0) ⟨rfl, rfl, rfl, rfl, rfl, rfl, trivial⟩ ?_ ⟨Nat.zero_le _, by simpa using hH0⟩ ?_
  · dsimp only
    rw [List.take_zero, List.flatten_nil, List.append_nil]
    repeat (first | exact List.nil_sublist _ | exact List.Sublist.refl _ | apply List.Sublist.cons_cons | apply List.Sublist.cons)
  rintro ⟨i, x, b⟩ ⟨hi, hH⟩
  dsimp only at hi hH ⊢
  repeat' (first | refine W ?_ | refine op2 ?_ | refine ob4 ?_ | refine ob2 (fun _ => ?_) | intro _ | simp only [List.set])
  have hle := flat_le (l := l) i
  refine ac_cond (fun hlt => ?_) (fun hlt => ?_)
  · have hil : i < l.length := by omega
    have hle2 := flat_le (l := l) (i + 1)
    have hfn := flat_next hil
    rw [hfn, List.length_append] at hle2
    repeat' (first | refine W ?_ | refine op2 ?_ | refine ob4 ?_ | refine ob2 (fun _ => ?_) | intro _ | simp only [List.set])
    refine al_callK [.var gh 178 (hshA x b (xorB 54 kb ++ (l.take i).flatten).length)] _ (by rw [hs]; exact hwrite (s := l[i]) hH (by rw [List.length_append, xorB_len]; omega)) (fun u m1 hh => ?_) (List.Perm.refl _)
    obtain ⟨rfl, x', b', hH', rfl⟩ := hh
    rw [List.append_assoc, ← hfn] at hH' ⊢
    repeat' (first | refine W ?_ | refine op2 ?_ | refine ob4 ?_ | refine ob2 (fun _ => ?_) | intro _ | simp only [List.set])
    refine ae_round (i + 1, x', b') ⟨rfl, rfl, rfl, rfl, rfl, rfl, trivial⟩ ?_ ⟨hil, hH'⟩ (by dsimp only; omega)
    repeat (first | exact List.nil_sublist _ | exact List.Sublist.refl _ | apply List.Sublist.cons_cons | apply List.Sublist.cons)
  · obtain rfl : i = l.length := by omega
    rw [List.take_length] at hH ⊢
    repeat' (first | refine W ?_ | refine op2 ?_ | refine ob4 ?_ | refine ob2 (fun _ => ?_) | intro _ | simp only [List.set])
    refine al_callK [] _ (by rw [hs]; exact sput hk 92 92 rfl) (fun u m1 hh => ?_) (List.Perm.refl _)
    obtain ⟨rfl, rfl⟩ := hh
    repeat' (first | refine W ?_ | refine op2 ?_ | refine ob4 ?_ | refine ob2 (fun _ => ?_) | intro _ | simp only [List.set])
    refine al_callK [.var gh 178 (hshA x b (xorB 54 kb ++ l.flatten).length)] _ (by rw [hs]; exact hsum hH (by rw [List.length_append, xorB_len]; omega)) (fun u m1 hh => ?_) (List.Perm.refl _)
    obtain ⟨rfl, rfl⟩ := hh
    have : LenLe (xorB 92 kb) 64 := ⟨by rw [xorB_len]; omega⟩
    repeat' (first | refine W ?_ | refine op2 ?_ | refine ob4 ?_ | refine ob2 (fun _ => ?_) | intro _ | simp only [List.set])
    rw [ofH2]
    repeat' (first | refine W ?_ | refine op2 ?_ | refine ob4 ?_ | refine ob2 (fun _ => ?_) | intro _ | simp only [List.set])
    exact reK [] ⟨rfl, rfl⟩ (List.nil_sublist _)
instance fnSeal {k s : Bs} : Ans Tryd.prog GL 127 [str k, str s] (k.length ≤ 1000000 ∧ s.length ≤ 1000000000) (hA (sealH k s)) := ⟨fun hp => by
  obtain ⟨hk, hsl⟩ := hp
  refine spec_enter Tryd.func127 rfl Tryd.ntmps127 rfl (fun _ hs => ?_)
  repeat' (first | refine W ?_ | refine op2 ?_ | refine ob4 ?_ | refine ob2 (fun _ => ?_) | intro _ | simp only [List.set])
  refine al_callK [] _ (by rw [hs]; exact snew hk) (fun u m1 hh => ?_) (List.Perm.refl _)
  obtain ⟨g, rfl, rfl⟩ := hh
  repeat' (first | refine W ?_ | refine op2 ?_ | refine ob4 ?_ | refine ob2 (fun _ => ?_) | intro _ | simp only [List.set])
  refine al_callK [.var g 202 (kbA (keyB k))] _ (by rw [hs]; exact sseal (l := [s]) (id := none) (keyB_len k) (by simpa using by omega) (by simp)) (fun u m1 hh => ?_) (List.Perm.refl _)
  obtain ⟨rfl, rfl⟩ := hh
  repeat' (first | refine W ?_ | refine op2 ?_ | refine ob4 ?_ | refine ob2 (fun _ => ?_) | intro _ | simp only [List.set])
  refine reE ?_
  rw [sealH]
  simp [outOf]⟩
end Go.Proofs.YtkijoddconipoaaDoor

namespace Go.Proofs.YtkijoddconipoaaDoor
open Go Go.RowKit Tw Av
theorem keyB_at (k : Bs) {i : Nat} (h : i < 64) : (keyB k).getD i 0 = if i < (if 64 < k.length then (shaH k).l else k).length then (if 64 < k.length then (shaH k).l else k).getD i 0 else 0 := by
  have hl : (if 64 < k.length then (shaH k).l else k).length ≤ 64 := by
    split
    · rw [Hsh.len]; omega
    · omega
  have hz : (zeros 64).length = 64 := by simp [zeros]
  have he : keyB k = (if 64 < k.length then (shaH k).l else k) ++ (zeros 64).drop (if 64 < k.length then (shaH k).l else k).length := by rw [keyB, copyB, hz, List.take_of_length_le hl]
  rw [he]
  generalize (if 64 < k.length then (shaH k).l else k) = q at *
  by_cases hi : i < q.length
  · rw [if_pos hi, List.getD, List.getD, List.getElem?_append_left hi]
  · rw [if_neg hi, List.getD, List.getElem?_append_right (by omega), zeros, List.drop_replicate, List.getElem?_replicate, if_pos (by omega)]
    rfl
theorem xor_snoc {l : Bs} {b : UInt8} {i : Nat} (h : i < l.length) : xorB b (l.take i) ++ [l[i] ^^^ b] = xorB b (l.take (i + 1)) := by
  rw [List.take_succ_eq_append_getElem h, xorB, xorB, List.map_append]
  rfl
instance fnRSeal {k s : Bs} : Ans Tryd.prog GL 95 [str k, str s] (k.length ≤ 1000000 ∧ s.length ≤ 1000000000) (hA (sealH k s)) := ⟨fun hp => by
  obtain ⟨hk, hsl⟩ := hp
  have hkl := keyB_len k
  have hkt := fun i h => keyB_at k (i := i) h
  refine spec_enter Tryd.func95 rfl Tryd.ntmps95 rfl (fun _ hs => ?_)
  repeat' (first | refine W ?_ | refine op2 ?_ | refine ob4 ?_ | refine ob2 (fun _ => ?_) | intro _ | simp only [List.set])
  rename_i g4
  refine ac_mid (α := Unit) (fun _ => [(0, str (if 64 < k.length then (shaH k).l else k)), (1, str s), (4, ptr g4)]) (fun _ => [.var g4 24 (hA zeroH)]) ?_ (fun _ => ?_)
  · refine ac_cond (fun h1 => ?_) (fun h1 => ?_)
    · have : LenLe k 1000000 := ⟨hk⟩
      repeat' (first | refine W ?_ | refine op2 ?_ | refine ob4 ?_ | refine ob2 (fun _ => ?_) | intro _ | simp only [List.set])
      exact ae_cut () ⟨by rw [if_pos (by omega)]; rfl, rfl, rfl, trivial⟩ (List.Sublist.refl _)
    · repeat' (first | refine W ?_ | refine op2 ?_ | refine ob4 ?_ | refine ob2 (fun _ => ?_) | intro _ | simp only [List.set])
      exact ae_cut () ⟨by rw [if_neg (by omega)]; rfl, rfl, rfl, trivial⟩ (List.Sublist.refl _)
  generalize (if 64 < k.length then (shaH k).l else k) = q at *
  generalize hK : keyB k = K at *
  repeat' (first | refine W ?_ | refine op2 ?_ | refine ob4 ?_ | refine ob2 (fun _ => ?_) | intro _ | simp only [List.set])
  refine ac_as 5 (Imp.nil (k := 1)) ?_
  refine ac_as 6 (Imp.nil (k := 1)) ?_
  refine ac_st (fun ok w h => h.full 5 1 none 0) ?_
  refine ac_st (fun ok w h => h.full 5 1 none 0) ?_
  refine ac_loop (α := Nat × Value × Value) (fun z => [(0, str q), (1, str s), (4, ptr g4), (5, .sl 1 ((xorB 54 (K.take z.1)).map u8A) (some z.2.1)), (6, .sl 1 ((xorB 92 (K.take z.1)).map u8A) (some z.2.2)), (7, int z.1)])
    (fun z => [.tail 5 1 z.2.1, .tail 5 1 z.2.2, .var g4 24 (hA zeroH)]) (fun z => z.1 ≤ 64) (fun z => 64 - z.1) (0, .slice none 0 0, .slice none 0 0) ⟨rfl, rfl, rfl, rfl, rfl, rfl, trivial⟩ (List.Sublist.refl _) (Nat.zero_le _) ?_
  rintro ⟨i, v5, v6⟩ hi
  dsimp only at hi ⊢
  repeat' (first | refine W ?_ | refine op2 ?_ | refine ob4 ?_ | refine ob2 (fun _ => ?_) | intro _ | simp only [List.set])
  refine ac_cond (fun hlt => ?_) (fun hlt => ?_)
  · have hi64 : i < 64 := by omega
    have hc := hkt i hi64
    have hl5 : (xorB 54 (K.take i)).length = i := by rw [xorB_len, List.length_take]; omega
    have hl6 : (xorB 92 (K.take i)).length = i := by rw [xorB_len, List.length_take]; omega
    have hx5 := xor_snoc (b := 54) (l := K) (i := i) (by omega)
    have hx6 := xor_snoc (b := 92) (l := K) (i := i) (by omega)
    have hge : K[i]'(by omega) = K.getD i 0 := by simp [List.getD, show i < K.length by omega]
    rw [hge] at hx5 hx6
    generalize hcc : K.getD i 0 = c at *
    repeat' (first | refine W ?_ | refine op2 ?_ | refine ob4 ?_ | refine ob2 (fun _ => ?_) | intro _ | simp only [List.set])
    refine ac_mid (α := Unit) (fun _ => [(0, str q), (1, str s), (4, ptr g4), (5, .sl 1 ((xorB 54 (K.take i)).map u8A) (some v5)), (6, .sl 1 ((xorB 92 (K.take i)).map u8A) (some v6)), (7, int i), (8, u8A c)]) (fun _ => [.tail 5 1 v5, .tail 5 1 v6, .var g4 24 (hA zeroH)]) ?_ (fun _ => ?_)
    · refine ac_cond (fun h1 => ?_) (fun h1 => ?_)
      · have hiq : i < q.length := by omega
        repeat' (first | refine W ?_ | refine op2 ?_ | refine ob4 ?_ | refine ob2 (fun _ => ?_) | intro _ | simp only [List.set])
        refine al_idxS (c := c) (b := q) i ?_ (by rw [hc, if_pos hiq]; simp [List.getD, hiq])
        repeat' (first | refine W ?_ | refine op2 ?_ | refine ob4 ?_ | refine ob2 (fun _ => ?_) | intro _ | simp only [List.set])
        exact ae_cut () ⟨rfl, rfl, rfl, rfl, rfl, rfl, rfl, trivial⟩ (List.Sublist.refl _)
      · rw [hc, if_neg (by omega)]
        repeat' (first | refine W ?_ | refine op2 ?_ | refine ob4 ?_ | refine ob2 (fun _ => ?_) | intro _ | simp only [List.set])
        exact ae_cut () ⟨rfl, rfl, rfl, rfl, rfl, rfl, rfl, trivial⟩ (List.Sublist.refl _)
    · repeat' (first | refine W ?_ | refine op2 ?_ | refine ob4 ?_ | refine ob2 (fun _ => ?_) | intro _ | simp only [List.set])
      refine al_append (fun v5' => ?_)
      repeat' (first | refine W ?_ | refine op2 ?_ | refine ob4 ?_ | refine ob2 (fun _ => ?_) | intro _ | simp only [List.set])
      refine al_append (fun v6' => ?_)
      repeat' (first | refine W ?_ | refine op2 ?_ | refine ob4 ?_ | refine ob2 (fun _ => ?_) | intro _ | simp only [List.set])
      refine ae_as 5 (v' := .sl 1 ((xorB 54 (K.take (i + 1))).map u8A) (some v5')) (Imp.of_eq (by rw [← hx5, List.map_append])) ?_
      refine ae_as 6 (v' := .sl 1 ((xorB 92 (K.take (i + 1))).map u8A) (some v6')) (Imp.of_eq (by rw [← hx6, List.map_append])) ?_
      exact ae_round (i + 1, v5', v6') ⟨rfl, rfl, rfl, rfl, rfl, rfl, trivial⟩ (List.Sublist.refl _) (by omega) (by dsimp only; omega)
  · obtain rfl : i = 64 := by omega
    rw [List.take_of_length_le (by omega)]
    have : LenLe (xorB 54 K) 64 := ⟨by rw [xorB_len]; omega⟩
    have : LenLe (xorB 92 K) 64 := ⟨by rw [xorB_len]; omega⟩
    have : LenLe s 1000000000 := ⟨hsl⟩
    repeat' (first | refine W ?_ | refine op2 ?_ | refine ob4 ?_ | refine ob2 (fun _ => ?_) | intro _ | simp only [List.set])
    refine reE ?_
    rw [sealH, hK]
    rfl⟩
instance fnHeader {c : Bs} {h t : Int} {r : Hsh} : Ans Tryd.prog GL 128 [.agg 35 [str c, int h, int t, hA r]] (h ≤ 9223372036854775807 ∧ t ≤ 9223372036854775807) (str (hdrB ⟨c, h, t, r⟩)) := ⟨fun hp => by
  obtain ⟨h1, h2⟩ := hp
  refine spec_enter Tryd.func128 rfl Tryd.ntmps128 rfl (fun _ hs => ?_)
  repeat' (first | refine W ?_ | refine op2 ?_ | refine ob4 ?_ | refine ob2 (fun _ => ?_) | intro _ | simp only [List.set])
  refine reE ?_
  rfl⟩
instance fnRHeader {c : Bs} {h t : Int} {r : Hsh} : Ans Tryd.prog GL 96 [.agg 35 [str c, int h, int t, hA r]] (h ≤ 9223372036854775807 ∧ t ≤ 9223372036854775807) (str (hdrB ⟨c, h, t, r⟩)) := ⟨fun hp => by
  obtain ⟨h1, h2⟩ := hp
  refine spec_enter Tryd.func96 rfl Tryd.ntmps96 rfl (fun _ hs => ?_)
  repeat' (first | refine W ?_ | refine op2 ?_ | refine ob4 ?_ | refine ob2 (fun _ => ?_) | intro _ | simp only [List.set])
  refine reE ?_
  rfl⟩
theorem hdrB_len (x : Hdr) : (hdrB x).length ≤ 100000000 := by
  have h1 := (inferInstance : LenLe (tlvT 99 x.c ++ tlvI 104 x.h ++ tlvI 116 x.t ++ tlvT 114 x.r.l) _).out
  unfold hdrB
  omega
instance fnCSeal {k c : Bs} {h t : Int} {r : Hsh} : Ans Tryd.prog GL 92 [str k, .agg 35 [str c, int h, int t, hA r]] (k.length ≤ 1000000 ∧ h ≤ 9223372036854775807 ∧ t ≤ 9223372036854775807) (hA (sealOf k ⟨c, h, t, r⟩)) := ⟨fun hp => by
  obtain ⟨h0, h1, h2⟩ := hp
  have h3 := hdrB_len ⟨c, h, t, r⟩
  refine spec_enter Tryd.func92 rfl Tryd.ntmps92 rfl (fun _ hs => ?_)
  repeat' (first | refine W ?_ | refine op2 ?_ | refine ob4 ?_ | refine ob2 (fun _ => ?_) | intro _ | simp only [List.set])
  refine reE ?_
  rfl⟩
instance fnRCSeal {k c : Bs} {h t : Int} {r : Hsh} : Ans Tryd.prog GL 41 [str k, .agg 35 [str c, int h, int t, hA r]] (k.length ≤ 1000000 ∧ h ≤ 9223372036854775807 ∧ t ≤ 9223372036854775807) (hA (sealOf k ⟨c, h, t, r⟩)) := ⟨fun hp => by
  obtain ⟨h0, h1, h2⟩ := hp
  have h3 := hdrB_len ⟨c, h, t, r⟩
  refine spec_enter Tryd.func41 rfl Tryd.ntmps41 rfl (fun _ hs => ?_)
  repeat' (first | refine W ?_ | refine op2 ?_ | refine ob4 ?_ | refine ob2 (fun _ => ?_) | intro _ | simp only [List.set])
  refine reE ?_
  rfl⟩
instance fnState {c : Bs} {h t : Int} {r : Hsh} : Ans Tryd.prog GL 89 [.agg 35 [str c, int h, int t, hA r]] True (.agg 34 [int h, int t, hA r]) := ⟨fun _ => by
  refine spec_enter Tryd.func89 rfl Tryd.ntmps89 rfl (fun _ hs => ?_)
  repeat' (first | refine W ?_ | refine op2 ?_ | refine ob4 ?_ | refine ob2 (fun _ => ?_) | intro _ | simp only [List.set])
  refine reE ?_
  rfl⟩
instance fnHdr {c : Bs} {h t : Int} {r : Hsh} : Ans Tryd.prog GL 125 [str c, .agg 34 [int h, int t, hA r]] True (.agg 35 [str c, int h, int t, hA r]) := ⟨fun _ => by
  refine spec_enter Tryd.func125 rfl Tryd.ntmps125 rfl (fun _ hs => ?_)
  repeat' (first | refine W ?_ | refine op2 ?_ | refine ob4 ?_ | refine ob2 (fun _ => ?_) | intro _ | simp only [List.set])
  refine reE ?_
  rfl⟩
instance fnRHdr {c k : Bs} {p : Int} {f : Bool} {X : AV} {h t : Int} {r : Hsh} : Ans Tryd.prog GL 131 [.agg 5 [str c, str k, int p, boo f, X], .agg 34 [int h, int t, hA r]] True (.agg 35 [str c, int h, int t, hA r]) := ⟨fun _ => by
  refine spec_enter Tryd.func131 rfl Tryd.ntmps131 rfl (fun _ hs => ?_)
  repeat' (first | refine W ?_ | refine op2 ?_ | refine ob4 ?_ | refine ob2 (fun _ => ?_) | intro _ | simp only [List.set])
  refine reE ?_
  rfl⟩
instance fnCheck {c : Bs} {h t : Int} {r : Hsh} : Ans Tryd.prog GL 91 [.agg 35 [str c, int h, int t, hA r]] True (boo (chkH ⟨c, h, t, r⟩)) := ⟨fun _ => by
  rcases c with _ | ⟨a, c⟩
  · refine spec_enter Tryd.func91 rfl Tryd.ntmps91 rfl (fun _ hs => ?_)
    repeat' (first | refine W ?_ | refine op2 ?_ | refine ob4 ?_ | intro _ | refine ob2 (fun _ => ?_) | refine ac_cond ?_ ?_ | refine ac_condB ?_ ?_ | refine gu1 ?_ ?_ | refine gu2 ?_ ?_)
    refine reE ?_
    simp [outOf, chkH]
  · refine spec_enter Tryd.func91 rfl Tryd.ntmps91 rfl (fun _ hs => ?_)
    repeat' (first | refine W ?_ | refine op2 ?_ | refine ob4 ?_ | intro _ | refine ob2 (fun _ => ?_) | refine ac_cond ?_ ?_ | refine ac_condB ?_ ?_ | refine gu1 ?_ ?_ | refine gu2 ?_ ?_)
    all_goals (refine reE ?_; refine boo_iff ?_; simp only [chkH, decide_eq_true_eq, Bool.false_eq_true, false_iff, List.length_cons] at *; omega)⟩
instance fnRCheck {c : Bs} {h t : Int} {r : Hsh} : Ans Tryd.prog GL 99 [.agg 35 [str c, int h, int t, hA r]] True (boo (chkH ⟨c, h, t, r⟩)) := ⟨fun _ => by
  refine spec_enter Tryd.func99 rfl Tryd.ntmps99 rfl (fun _ hs => ?_)
  repeat' (first | refine W ?_ | refine op2 ?_ | refine ob4 ?_ | intro _ | refine ob2 (fun _ => ?_) | refine ac_cond ?_ ?_ | refine ac_condB ?_ ?_ | refine gu1 ?_ ?_ | refine gu2 ?_ ?_)
  all_goals (refine reE ?_; refine boo_iff ?_; simp only [chkH, decide_eq_true_eq, Bool.false_eq_true, false_iff] at *; omega)⟩
instance fnFollows {h t h' t' : Int} {r r' : Hsh} : Ans Tryd.prog GL 126 [.agg 34 [int h, int t, hA r], .agg 34 [int h', int t', hA r']] True (boo (fol ⟨h, t, r⟩ ⟨h', t', r'⟩)) := ⟨fun _ => by
  refine spec_enter Tryd.func126 rfl Tryd.ntmps126 rfl (fun _ hs => ?_)
  repeat' (first | refine W ?_ | refine op2 ?_ | refine ob4 ?_ | intro _ | refine ob2 (fun _ => ?_) | refine ac_cond ?_ ?_ | refine ac_condB ?_ ?_ | refine gu1 ?_ ?_ | refine gu2 ?_ ?_)
  all_goals (refine reE ?_; refine boo_iff ?_; simp only [fol, decide_eq_true_eq, Bool.false_eq_true, false_iff] at *; omega)⟩
instance fnLast {l : List Sta} {xs : List AV} {id : Option Value} [hx : Stas xs l] : Ans Tryd.prog GL 100 [.sl 34 xs id] True (staA (latC l)) := ⟨fun _ => by
  have h := hx.out
  subst h
  have hm : (l.map staA).length = l.length := List.length_map _
  refine spec_enter Tryd.func100 rfl Tryd.ntmps100 rfl (fun _ hs => ?_)
  refine ac_bnd 0 (fun hb => ?_)
  have hb := maxLen_le hb
  repeat' (first | refine W ?_ | refine op2 ?_ | refine ob4 ?_ | refine ob2 (fun _ => ?_) | intro _ | simp only [List.set])
  refine ac_cond (fun h1 => ?_) (fun h1 => ?_)
  · repeat' (first | refine W ?_ | refine op2 ?_ | refine ob4 ?_ | refine ob2 (fun _ => ?_) | intro _ | simp only [List.set])
    refine reE ?_
    obtain rfl : l = [] := List.eq_nil_of_length_eq_zero (by omega)
    rfl
  · repeat' (first | refine W ?_ | refine op2 ?_ | refine ob4 ?_ | refine ob2 (fun _ => ?_) | intro _ | simp only [List.set])
    refine al_idxM (l := l) (f := staA) (l.length - 1) (by omega) ?_
    repeat' (first | refine W ?_ | refine op2 ?_ | refine ob4 ?_ | refine ob2 (fun _ => ?_) | intro _ | simp only [List.set])
    refine reE ?_
    rw [latC, List.getLastD_eq_getLast?, List.getLast?_eq_getElem?, List.getElem?_eq_getElem (by omega)]
    rfl⟩
instance fnLatest {c k : Bs} {p : Int} {f : Bool} {l : List Sta} {xs : List AV} {id : Option Value} [Stas xs l] : Ans Tryd.prog GL 49 [.agg 5 [str c, str k, int p, boo f, .sl 34 xs id]] True (staA (latC l)) := ⟨fun _ => by
  refine spec_enter Tryd.func49 rfl Tryd.ntmps49 rfl (fun _ hs => ?_)
  repeat' (first | refine W ?_ | refine op2 ?_ | refine ob4 ?_ | refine ob2 (fun _ => ?_) | intro _ | simp only [List.set])
  refine reE ?_
  rfl⟩
instance fnRLatest {c k : Bs} {p : Int} {f : Bool} {l : List Sta} {xs : List AV} {id : Option Value} [hx : Stas xs l] : Ans Tryd.prog GL 50 [.agg 5 [str c, str k, int p, boo f, .sl 34 xs id]] True (staA (latC l)) := ⟨fun _ => by
  have h := hx.out
  subst h
  have hm : (l.map staA).length = l.length := List.length_map _
  refine spec_enter Tryd.func50 rfl Tryd.ntmps50 rfl (fun _ hs => ?_)
  refine ac_bndA 0 4 (fun hb => ?_)
  have hb := maxLen_le hb
  repeat' (first | refine W ?_ | refine op2 ?_ | refine ob4 ?_ | refine ob2 (fun _ => ?_) | intro _ | simp only [List.set])
  refine ac_cond (fun h1 => ?_) (fun h1 => ?_)
  · repeat' (first | refine W ?_ | refine op2 ?_ | refine ob4 ?_ | refine ob2 (fun _ => ?_) | intro _ | simp only [List.set])
    refine reE ?_
    obtain rfl : l = [] := List.eq_nil_of_length_eq_zero (by omega)
    rfl
  · repeat' (first | refine W ?_ | refine op2 ?_ | refine ob4 ?_ | refine ob2 (fun _ => ?_) | intro _ | simp only [List.set])
    refine al_idxM (l := l) (f := staA) (l.length - 1) (by omega) ?_
    repeat' (first | refine W ?_ | refine op2 ?_ | refine ob4 ?_ | refine ob2 (fun _ => ?_) | intro _ | simp only [List.set])
    refine reE ?_
    rw [latC, List.getLastD_eq_getLast?, List.getLast?_eq_getElem?, List.getElem?_eq_getElem (by omega)]
    rfl⟩
instance fnActive {c k : Bs} {p : Int} {f : Bool} {l : List Sta} {xs : List AV} {id : Option Value} {now : Int} [Stas xs l] : Ans Tryd.prog GL 42 [.agg 5 [str c, str k, int p, boo f, .sl 34 xs id], int now] (-4611686018427387904 ≤ (latC l).t ∧ (latC l).t ≤ 4611686018427387904 ∧ -4611686018427387904 ≤ p ∧ p < 4611686018427387904) (boo (actC ⟨c, k, p, f, l⟩ now)) := ⟨fun hp => by
  obtain ⟨h1, h2, h3, h4⟩ := hp
  refine spec_enter Tryd.func42 rfl Tryd.ntmps42 rfl (fun _ hs => ?_)
  cases f
  all_goals
    repeat' (first | refine W ?_ | refine op2 ?_ | refine ob4 ?_ | refine ob2 (fun _ => ?_) | intro _ | simp only [List.set])
    refine reE ?_
    simp [outOf, actC]⟩
instance fnRActive {c k : Bs} {p : Int} {f : Bool} {l : List Sta} {xs : List AV} {id : Option Value} {now : Int} [Stas xs l] : Ans Tryd.prog GL 48 [.agg 5 [str c, str k, int p, boo f, .sl 34 xs id], int now] (-4611686018427387904 ≤ (latC l).t ∧ (latC l).t ≤ 4611686018427387904 ∧ -4611686018427387904 ≤ p ∧ p < 4611686018427387904) (boo (actC ⟨c, k, p, f, l⟩ now)) := ⟨fun hp => by
  obtain ⟨h1, h2, h3, h4⟩ := hp
  refine spec_enter Tryd.func48 rfl Tryd.ntmps48 rfl (fun _ hs => ?_)
  cases f
  all_goals
    repeat' (first | refine W ?_ | refine op2 ?_ | refine ob4 ?_ | refine ob2 (fun _ => ?_) | intro _ | simp only [List.set])
    refine reE ?_
    simp [outOf, actC]⟩
end Go.Proofs.YtkijoddconipoaaDoor
