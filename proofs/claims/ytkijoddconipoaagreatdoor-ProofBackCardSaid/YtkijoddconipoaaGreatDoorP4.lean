/- The engine: regions that draw their order, the walk's words, comparison, the given form. -/
import Derived.Orders
import Derived.KernelRfl
import Derived.Laws.StructEq
import Derived.ChangeKeysEq
import Derived.Carry
import Derived.WideKeyArgs
import Derived.ChangeArms
import Derived.OpenShut
import Derived.Deep.DeepHandedRow
import Derived.Test.YtkijoddconipoaaGreatDoorP1
import Derived.Test.YtkijoddconipoaaGreatDoorP2
import Derived.Test.YtkijoddconipoaaGreatDoorP3
namespace Av
open Go Go.RowKit Tw
section lists
variable {α : Type}
/-- the parts at some places -/
def getF (T : List α) : List Nat → Option (List α)
  | [] => some []
  | q :: F => (match T[q]?, getF T F with
    | some p, some ps => some (p :: ps)
    | _, _ => none)
def setF (T : List α) : List Nat → List α → List α
  | q :: F, p :: D => setF (T.set q p) F D
  | _, _ => T
/-- places in rising order, from lo on -/
def rises : Nat → List Nat → Bool
  | _, [] => true
  | lo, q :: F => Nat.ble lo q && rises (q + 1) F
theorem rises_ge : ∀ {lo : Nat} {F : List Nat}, rises lo F = true → ∀ q ∈ F, lo ≤ q
  | _, [], _ => by simp
  | lo, q :: F, h => by
    simp only [rises, Bool.and_eq_true] at h
    have h1 := Nat.le_of_ble_eq_true h.1
    intro r hr
    rcases List.mem_cons.1 hr with rfl | hr
    · exact h1
    · have := rises_ge h.2 r hr
      omega
theorem setF_len : ∀ {F : List Nat} {D T : List α}, (setF T F D).length = T.length
  | [], D, T => by cases D <;> rfl
  | q :: F, [], T => rfl
  | q :: F, p :: D, T => by rw [setF, setF_len]; simp
theorem setF_other : ∀ {F : List Nat} {D T : List α} {q : Nat}, q ∉ F → (setF T F D)[q]? = T[q]?
  | [], D, T, q, _ => by cases D <;> rfl
  | r :: F, [], T, q, _ => rfl
  | r :: F, p :: D, T, q, h => by
    simp only [List.mem_cons, not_or] at h
    rw [setF, setF_other h.2, List.getElem?_set_ne (Ne.symm h.1)]
/-- at a place of F: what D says -/
theorem setF_at : ∀ {F : List Nat} {D T T' : List α} {q lo : Nat}, rises lo F = true → F.length = D.length → q ∈ F → q < T.length → q < T'.length → (setF T F D)[q]? = (setF T' F D)[q]?
  | [], _, _, _, _, _, _, _, h, _, _ => by simp at h
  | r :: F, [], _, _, _, _, _, h, _, _, _ => by simp at h
  | r :: F, p :: D, T, T', q, lo, hr, hl, hq, h1, h2 => by
    simp only [rises, Bool.and_eq_true] at hr
    rw [setF, setF]
    by_cases hF : q ∈ F
    · exact setF_at hr.2 (by simpa using hl) hF (by simpa using h1) (by simpa using h2)
    · have : q = r := by
        rcases List.mem_cons.1 hq with h | h
        · exact h
        · exact absurd h hF
      subst this
      rw [setF_other hF, setF_other hF, List.getElem?_set_self h1, List.getElem?_set_self h2]
theorem getF_some {T : List α} : ∀ {F : List Nat} {C : List α}, getF T F = some C → F.length = C.length ∧ ∀ q ∈ F, q < T.length
  | [], C, h => by simp [getF] at h; subst h; simp
  | q :: F, C, h => by
    unfold getF at h
    split at h
    · rename_i p ps h1 h2
      injection h with h
      subst h
      obtain ⟨g1, g2⟩ := getF_some h2
      refine ⟨by simp [g1], fun r hr => ?_⟩
      rcases List.mem_cons.1 hr with rfl | hr
      · exact (List.getElem?_eq_some_iff.1 h1).1
      · exact g2 r hr
    · cases h
theorem getF_congr {T T' : List α} : ∀ {F : List Nat}, (∀ q ∈ F, T[q]? = T'[q]?) → getF T F = getF T' F
  | [], _ => rfl
  | q :: F, h => by
    unfold getF
    rw [h q (by simp), getF_congr (fun r hr => h r (by simp [hr]))]
theorem getF_shift {k : Nat} : ∀ {F : List Nat} {pre X : List α}, pre.length = k → (∀ q ∈ F, k ≤ q) → getF (pre ++ X) F = getF X (F.map (· - k))
  | [], _, _, _, _ => rfl
  | q :: F, pre, X, hp, h => by
    have h1 := h q (by simp)
    rw [List.map_cons, getF, getF, getF_shift hp (fun r hr => h r (by simp [hr])), List.getElem?_append_right (by omega), hp]
theorem setF_shift {k : Nat} : ∀ {F : List Nat} {D pre X : List α}, pre.length = k → (∀ q ∈ F, k ≤ q) → setF (pre ++ X) F D = pre ++ setF X (F.map (· - k)) D
  | [], D, _, _, _, _ => by cases D <;> rfl
  | q :: F, [], _, _, _, _ => rfl
  | q :: F, p :: D, pre, X, hp, h => by
    have h1 := h q (by simp)
    rw [List.map_cons, setF, setF, List.set_append_right _ _ (by omega), setF_shift hp (fun r hr => h r (by simp [hr])), hp]
theorem rises_shift {k : Nat} : ∀ {lo : Nat} {F : List Nat}, rises lo F = true → k ≤ lo → rises (lo - k) (F.map (· - k)) = true
  | _, [], _, _ => rfl
  | lo, q :: F, h, hk => by
    simp only [rises, Bool.and_eq_true] at h
    have h1 := Nat.le_of_ble_eq_true h.1
    have := rises_shift (k := k) h.2 (by omega)
    rw [List.map_cons, rises, Bool.and_eq_true]
    refine ⟨Nat.ble_eq_true_of_le (by omega), ?_⟩
    rwa [show q - k + 1 = q + 1 - k by omega]
theorem permF : ∀ {F : List Nat} {X C D : List α}, rises 0 F = true → getF X F = some C → D.length = C.length → ∃ rest, X.Perm (C ++ rest) ∧ (setF X F D).Perm (D ++ rest)
  | [], X, C, D, _, hg, hd => by
    simp [getF] at hg
    subst hg
    have : D = [] := List.eq_nil_of_length_eq_zero (by simpa using hd)
    subst this
    exact ⟨X, List.Perm.refl _, List.Perm.refl _⟩
  | q :: F, X, C, D, hr, hg, hd => by
    unfold getF at hg
    split at hg
    · rename_i c C' h1 h2
      injection hg with hg
      subst hg
      match D, hd with
      | d :: D, hd =>
        obtain ⟨hlt, he⟩ := List.getElem?_eq_some_iff.1 h1
        have hX : X = X.take q ++ [c] ++ X.drop (q + 1) := by
          conv => lhs; rw [← List.take_append_drop q X, List.drop_eq_getElem_cons hlt, he]
          simp
        simp only [rises, Bool.and_eq_true] at hr
        have hge := rises_ge hr.2
        have hpl : (X.take q ++ [c]).length = q + 1 := by simp; omega
        have hpl' : (X.take q ++ [d]).length = q + 1 := by simp; omega
        have hset : X.set q d = X.take q ++ [d] ++ X.drop (q + 1) := by
          rw [List.set_eq_take_append_cons_drop, if_pos hlt]
          simp
        have h2' : getF (X.drop (q + 1)) (F.map (· - (q + 1))) = some C' := by
          rw [← getF_shift hpl hge, ← hX, h2]
        obtain ⟨rest, g1, g2⟩ := permF (F := F.map (· - (q + 1))) (D := D) (by
          have := rises_shift (k := q + 1) hr.2 (Nat.le_refl _)
          rwa [Nat.sub_self] at this) h2' (by simpa using hd)
        refine ⟨X.take q ++ rest, ?_, ?_⟩
        · conv => lhs; rw [hX]
          rw [List.append_assoc, List.singleton_append]
          refine List.perm_middle.trans ?_
          rw [List.cons_append]
          refine List.Perm.cons _ ?_
          refine (List.Perm.append_left _ g1).trans ?_
          rw [← List.append_assoc, ← List.append_assoc]
          exact List.Perm.append_right _ List.perm_append_comm
        · rw [setF, hset, setF_shift hpl' hge, List.append_assoc, List.singleton_append]
          refine List.perm_middle.trans ?_
          rw [List.cons_append]
          refine List.Perm.cons _ ?_
          refine (List.Perm.append_left _ g2).trans ?_
          rw [← List.append_assoc, ← List.append_assoc]
          exact List.Perm.append_right _ List.perm_append_comm
    · cases hg
termination_by F => F.length
end lists

/-- what is known of an operation: which places it touches, what it leaves there, what it makes anew, its value -/
structure Rec where
  F : List Nat
  C : List Piece
  D : List Piece
  N : List Piece
  wr : Bool
  fresh : Bool
  x : AV
def appR (r : Rec) (T : List Piece) : List Piece := bif r.wr then setF T r.F r.D ++ r.N else T
/-- the pieces behind those operations that have been carried out -/
def cur (L : Nat → Bool) : Nat → List Rec → List Piece → List Piece
  | _, [], T => T
  | i, r :: rs, T => cur L (i + 1) rs (bif L i then appR r T else T)
theorem cur_snoc {L : Nat → Bool} {r : Rec} : ∀ {rs : List Rec} {i : Nat} {T : List Piece}, cur L i (rs ++ [r]) T = bif L (i + rs.length) then appR r (cur L i rs T) else cur L i rs T
  | [], i, T => by simp [cur]
  | q :: rs, i, T => by
    rw [List.cons_append, cur, cur, cur_snoc]
    simp only [List.length_cons, show i + 1 + rs.length = i + (rs.length + 1) by omega]
theorem cur_congr {L L' : Nat → Bool} : ∀ {rs : List Rec} {i : Nat} {T : List Piece}, (∀ j, i ≤ j → j < i + rs.length → L j = L' j) → cur L i rs T = cur L' i rs T
  | [], _, _, _ => rfl
  | r :: rs, i, T, h => by
    rw [cur, cur, h i (Nat.le_refl _) (by simp), cur_congr (fun j h1 h2 => h j (by omega) (by simp; omega))]
/-- textually -/
abbrev txt (rs : List Rec) (T : List Piece) : List Piece := cur (fun _ => true) 0 rs T

/-- do two operations meet at a place that one of them writes? -/
def meets (F F' : List Nat) (w w' : Bool) : Bool := (w || w') && F.any (hasN F')
theorem meets_mem {F F' : List Nat} {w w' : Bool} {q : Nat} (h1 : q ∈ F) (h2 : q ∈ F') (hw : w = true ∨ w' = true) : meets F F' w w' = true := by
  unfold meets
  rw [Bool.and_eq_true]
  refine ⟨by rcases hw with rfl | rfl <;> simp, List.any_eq_true.2 ⟨q, h1, ?_⟩⟩
  rw [hasN_spec]
  simpa using h2
/-- all elder operations that it meets come ahead of it -/
def conf (l : List Oper) (j : Nat) (F : List Nat) (w : Bool) : Nat → List Rec → Bool
  | _, [] => true
  | i, r :: rs => (!(meets F r.F w r.wr) || reach l 2 j i) && conf l j F w (i + 1) rs
theorem conf_spec {l : List Oper} {j : Nat} {F : List Nat} {w : Bool} : ∀ {rs : List Rec} {i : Nat}, conf l j F w i rs = true → ∀ (k : Nat) (r : Rec), rs[k]? = some r → meets F r.F w r.wr = true → reach l 2 j (i + k) = true
  | [], _, _, k, r, hk, _ => by simp at hk
  | q :: rs, i, h, k, r, hk, hm => by
    simp only [conf, Bool.and_eq_true] at h
    cases k with
    | zero =>
      simp at hk
      subst hk
      simpa [hm] using h.1
    | succ k =>
      have := conf_spec h.2 k r (by simpa using hk) hm
      rwa [show i + 1 + k = i + (k + 1) by omega] at this
/-- all later operations come behind it -/
def lastly (l : List Oper) (j : Nat) : Bool := (List.range l.length).all fun i => Nat.ble i j || reach l 2 i j

/-- the frame that an operation looks at -/
def pick (E : Env) : List Nat → Env
  | [] => []
  | t :: ts => (match lk E t with | some v => (t, v) :: pick E ts | none => pick E ts)
def putE (o : Oper) (x : AV) (E : Env) : Env := match o.dst with | some d => (d, x) :: E | none => E

section
variable {P : Program} {N : Nat} {Q : Exit → Act → World → Prop} {e : Env} {s : Base} {m : List Piece} {gl : List (Nat × AV)}
/-- an operation has done its part -/
def Got (s : Base) (o : Oper) (D : List Piece) (x : AV) (a : Act) (w : World) : Prop := a.defers = [] ∧ ∃ ok, St s ok D w ∧ ∀ d, o.dst = some d → RV ok w x (a.tmps.getD d undef)
def OpOK (P : Program) (N : Nat) (gl : List (Nat × AV)) (l : List Oper) (o : Oper) (E : Env) (C D : List Piece) (x : AV) : Prop :=
  ∀ s : Base, s.gl = gl → AL P N l.toArray (Exit.then (Got s o D x) fun _ _ _ => False) s [o] E C
def Obl (P : Program) (N : Nat) (Q : Exit → Act → World → Prop) (s : Base) (gl : List (Nat × AV)) (l : List Oper) : List Oper → Nat → List Piece → Env → List Rec → Prop
  | [], _, T, E, _ => AE N .normal Q s E T
  | o :: os, i, T, E, rs =>
    (∃ F C D x wr, getF T F = some C ∧ D.length = C.length ∧ (wr = false → D = C) ∧ rises 0 F = true ∧ conf l i F wr 0 rs = true ∧ OpOK P N gl l o (pick E (looksN l o)) C D x ∧
      Obl P N Q s gl l os (i + 1) (bif wr then setF T F D ++ [] else T) (putE o x E) (rs ++ [⟨F, C, D, [], wr, false, x⟩])) ∨
    (∃ F C, getF T F = some C ∧ rises 0 F = true ∧ conf l i F true 0 rs = true ∧ lastly l i = true ∧
      ∀ s' : Base, s'.gl = gl → AL P N l.toArray (Exit.then (fun a w => ∃ D N' x, D.length = C.length ∧ Got s' o (D ++ N') x a w ∧ Obl P N Q s gl l os (i + 1) (setF T F D ++ N') (putE o x E) (rs ++ [⟨F, C, D, N', true, true, x⟩])) fun _ _ _ => False) s' [o] (pick E (looksN l o)) C)

/-- the check on a region that draws -/
def chkR (N : Nat) (l : List Oper) : Bool :=
  ((List.range l.length).all fun i => ((l[i]?).map fun o => (o.after.toList.all fun e => !Region.binds .any e || Nat.blt e.on i) && (match o.op with | .defer _ | .select .. => false | _ => true) &&
    (match o.dst with | some d => Nat.blt d N && ((List.range l.length).all fun k => Nat.beq k i || (match dstAt l k with | some d' => !(Nat.beq d' d) | none => true)) | none => true) &&
    ((looksN l o).all fun t => (List.range l.length).all fun k => (match dstAt l k with | some d' => !(Nat.beq d' t) | none => true) || Nat.beq k i || (bif Nat.blt k i then reach l 2 i k else reach l 2 k i))).getD false)
structure ChkR (N : Nat) (l : List Oper) : Prop where
  back : ∀ i o, l[i]? = some o → ∀ x ∈ o.after, Region.binds .any x = true → x.on < i
  lt : ∀ (i : Nat) (o : Oper) (d : Nat), l[i]? = some o → o.dst = some d → d < N
  nodup : ∀ (i k : Nat) (o o' : Oper) (d : Nat), l[i]? = some o → l[k]? = some o' → o.dst = some d → o'.dst = some d → i = k
  looks : ∀ (i k : Nat) (o o' : Oper) (d : Nat), l[i]? = some o → l[k]? = some o' → o'.dst = some d → d ∈ looksN l o → k ≠ i → (k < i → reach l 2 i k = true) ∧ (i < k → reach l 2 k i = true)
theorem ChkR.of {l : List Oper} (h : chkR N l = true) : ChkR N l := by
  have get : ∀ i o, l[i]? = some o → (o.after.toList.all fun e => !Region.binds .any e || Nat.blt e.on i) = true ∧
      (match o.dst with | some d => Nat.blt d N && ((List.range l.length).all fun k => Nat.beq k i || (match dstAt l k with | some d' => !(Nat.beq d' d) | none => true)) | none => true) = true ∧
      ((looksN l o).all fun t => (List.range l.length).all fun k => (match dstAt l k with | some d' => !(Nat.beq d' t) | none => true) || Nat.beq k i || (bif Nat.blt k i then reach l 2 i k else reach l 2 k i)) = true := fun i o ho => by
    have hi : i < l.length := (List.getElem?_eq_some_iff.1 ho).1
    have h := List.all_eq_true.1 h i (by simpa using hi)
    simp only [ho, Option.map_some, Option.getD_some, Bool.and_eq_true] at h
    exact ⟨h.1.1.1, h.1.2, h.2⟩
  refine ⟨fun i o ho x hx hb => ?_, fun i o d ho hd => ?_, fun i k o o' d ho ho' hd hd' => ?_, fun i k o o' d ho ho' hd' hlk hne => ?_⟩
  · have h := List.all_eq_true.1 (get i o ho).1 x (by simpa using hx)
    simp [hb] at h
    exact h
  · have h := (get i o ho).2.1
    rw [hd] at h
    simp only [Bool.and_eq_true] at h
    exact Nat.le_of_ble_eq_true h.1
  · have h := (get i o ho).2.1
    rw [hd] at h
    simp only [Bool.and_eq_true] at h
    have hk : k < l.length := (List.getElem?_eq_some_iff.1 ho').1
    have h := List.all_eq_true.1 h.2 k (by simpa using hk)
    simp [dstAt, ho', hd'] at h
    exact h.symm
  · have hk : k < l.length := (List.getElem?_eq_some_iff.1 ho').1
    have h := List.all_eq_true.1 (List.all_eq_true.1 (get i o ho).2.2 d hlk) k (by simpa using hk)
    simp only [dstAt, ho', Option.bind_some, hd', Nat.beq_refl, Bool.not_true, beq_ff hne, Bool.false_or] at h
    refine ⟨fun hlt => ?_, fun hlt => ?_⟩
    · rwa [show Nat.blt k i = true from Nat.ble_eq_true_of_le hlt, cond_true] at h
    · rwa [show Nat.blt k i = false by
        cases hb : Nat.blt k i
        · rfl
        · have := Nat.le_of_ble_eq_true hb
          omega, cond_false] at h
end
end Av

namespace Av
open Go Go.RowKit Tw
section lists
variable {α : Type}
theorem setF_append : ∀ {F : List Nat} {D A B : List α}, (∀ q ∈ F, q < A.length) → setF (A ++ B) F D = setF A F D ++ B
  | [], D, A, B, _ => by cases D <;> rfl
  | q :: F, [], A, B, _ => rfl
  | q :: F, p :: D, A, B, h => by
    rw [setF, setF, List.set_append_left _ _ (h q (by simp)), setF_append (fun r hr => by simpa using h r (by simp [hr]))]
theorem setF_comm {F F' : List Nat} {D D' X : List α} {lo lo' : Nat} (hr : rises lo F = true) (hr' : rises lo' F' = true) (hl : F.length = D.length) (hl' : F'.length = D'.length) (hF : ∀ q ∈ F, q < X.length) (hF' : ∀ q ∈ F', q < X.length) (hd : ∀ q ∈ F, q ∉ F') :
    setF (setF X F D) F' D' = setF (setF X F' D') F D := by
  apply List.ext_getElem?
  intro q
  by_cases h1 : q ∈ F
  · rw [setF_other (hd q h1)]
    exact setF_at hr hl h1 (hF q h1) (by rw [setF_len]; exact hF q h1)
  · rw [setF_other (F := F) (T := setF X F' D') h1]
    by_cases h2 : q ∈ F'
    · exact setF_at hr' hl' h2 (by rw [setF_len]; exact hF' q h2) (hF' q h2)
    · rw [setF_other h2, setF_other h1, setF_other h2]
end lists
theorem take_snoc {α : Type} {l : List α} {k : Nat} {r : α} (h : l[k]? = some r) : l.take (k + 1) = l.take k ++ [r] := by
  obtain ⟨hlt, rfl⟩ := List.getElem?_eq_some_iff.1 h
  rw [List.take_succ_eq_append_getElem hlt]
/-- what holds of each operation that is known -/
structure RecOK (m : List Piece) (rs : List Rec) (j : Nat) (r : Rec) : Prop where
  get : getF (txt (rs.take j) m) r.F = some r.C
  len : r.D.length = r.C.length
  rise : rises 0 r.F = true
  read : r.wr = false → r.D = r.C
  nofr : r.fresh = false → r.N = []
  fr : r.fresh = true → r.wr = true
theorem RecOK.fd {m : List Piece} {rs : List Rec} {j : Nat} {r : Rec} (h : RecOK m rs j r) : r.F.length = r.D.length := by rw [h.len]; exact (getF_some h.get).1

theorem txt_snoc {m : List Piece} {rs : List Rec} {r : Rec} : txt (rs ++ [r]) m = appR r (txt rs m) := by
  unfold txt
  rw [cur_snoc]
  rfl
section
variable {m : List Piece} {rs : List Rec} {L L' : Nat → Bool}
/-- up to j -/
theorem cur_upto (hrs : ∀ (j : Nat) (r : Rec), rs[j]? = some r → RecOK m rs j r) {q j : Nat} (h1 : ∀ (k : Nat) (r : Rec), rs[k]? = some r → k < j → (r.fresh = true → L k = true) ∧ (r.wr = true → q ∈ r.F → L k = true)) :
    ∀ k, k ≤ j → k ≤ rs.length → (cur L 0 (rs.take k) m).length = (txt (rs.take k) m).length ∧ (cur L 0 (rs.take k) m)[q]? = (txt (rs.take k) m)[q]?
  | 0, _, _ => by simp [cur]
  | k + 1, hj, hk => by
    obtain ⟨g1, g2⟩ := cur_upto hrs h1 k (by omega) (by omega)
    have hr : rs[k]? = some rs[k] := by simp
    have hok := hrs k _ hr
    obtain ⟨e1, e2⟩ := h1 k _ hr (by omega)
    rw [take_snoc hr, cur_snoc, txt_snoc]
    have hlen : (rs.take k).length = k := by simp; omega
    simp only [hlen, Nat.zero_add]
    generalize rs[k] = r at hok e1 e2
    have hF := (getF_some hok.get).2
    generalize hX : cur L 0 (rs.take k) m = X at g1 g2 ⊢
    generalize hY : txt (rs.take k) m = Y at g1 g2 hF ⊢
    unfold appR
    cases hL : L k with
    | true =>
      simp only [cond_true]
      cases hw : r.wr with
      | false => exact ⟨g1, g2⟩
      | true =>
        simp only [cond_true]
        refine ⟨by simp [setF_len, g1], ?_⟩
        rcases Nat.lt_or_ge q Y.length with hq | hq
        · rw [List.getElem?_append_left (by rw [setF_len, g1]; exact hq), List.getElem?_append_left (by rw [setF_len]; exact hq)]
          by_cases hqF : q ∈ r.F
          · exact setF_at hok.rise hok.fd hqF (by omega) hq
          · rw [setF_other hqF, setF_other hqF, g2]
        · rw [List.getElem?_append_right (by rw [setF_len, g1]; exact hq), List.getElem?_append_right (by rw [setF_len]; exact hq), setF_len, setF_len, g1]
    | false =>
      simp only [cond_false]
      have hfr : r.fresh = false := by
        cases h : r.fresh with
        | false => rfl
        | true => rw [e1 h] at hL; cases hL
      cases hw : r.wr with
      | false => exact ⟨g1, g2⟩
      | true =>
        simp only [cond_true, hok.nofr hfr, List.append_nil]
        refine ⟨by rw [setF_len, g1], ?_⟩
        rw [setF_other (fun hqF => by rw [e2 hw hqF] at hL; cases hL), g2]
/-- from j on -/
theorem cur_from {q j : Nat} (h2 : ∀ (k : Nat) (r : Rec), rs[k]? = some r → j ≤ k → L k = true → r.wr = true → q ∉ r.F) (hq : q < (cur L 0 (rs.take j) m).length) :
    ∀ d, j + d ≤ rs.length → q < (cur L 0 (rs.take (j + d)) m).length ∧ (cur L 0 (rs.take (j + d)) m)[q]? = (cur L 0 (rs.take j) m)[q]?
  | 0, _ => ⟨hq, rfl⟩
  | d + 1, hd => by
    obtain ⟨g1, g2⟩ := cur_from h2 hq d (by omega)
    have hr : rs[j + d]? = some rs[j + d] := by simp
    have e := h2 (j + d) _ hr (by omega)
    rw [show j + (d + 1) = j + d + 1 by omega, take_snoc hr, cur_snoc]
    have hlen : (rs.take (j + d)).length = j + d := by simp; omega
    simp only [hlen, Nat.zero_add]
    generalize rs[j + d] = r at e
    unfold appR
    cases hL : L (j + d) with
    | false => exact ⟨g1, g2⟩
    | true =>
      cases hw : r.wr with
      | false => exact ⟨g1, g2⟩
      | true =>
        simp only [cond_true]
        refine ⟨by simp only [List.length_append, setF_len]; omega, ?_⟩
        rw [List.getElem?_append_left (by rw [setF_len]; exact g1), setF_other (e hL hw), g2]
theorem cur_at (hrs : ∀ (j : Nat) (r : Rec), rs[j]? = some r → RecOK m rs j r) {q j : Nat} (hj : j ≤ rs.length) (h1 : ∀ (k : Nat) (r : Rec), rs[k]? = some r → k < j → (r.fresh = true → L k = true) ∧ (r.wr = true → q ∈ r.F → L k = true))
    (h2 : ∀ (k : Nat) (r : Rec), rs[k]? = some r → j ≤ k → L k = true → r.wr = true → q ∉ r.F) (hq : q < (txt (rs.take j) m).length) : (cur L 0 rs m)[q]? = (txt (rs.take j) m)[q]? := by
  obtain ⟨g1, g2⟩ := cur_upto hrs h1 j (Nat.le_refl _) hj
  obtain ⟨_, g4⟩ := cur_from h2 (by rw [g1]; exact hq) (rs.length - j) (by omega)
  rw [show j + (rs.length - j) = rs.length by omega, List.take_length] at g4
  rw [g4, g2]
/-- lengths: all that made pieces anew has been carried out -/
theorem cur_len (hrs : ∀ (j : Nat) (r : Rec), rs[j]? = some r → RecOK m rs j r) (h1 : ∀ (k : Nat) (r : Rec), rs[k]? = some r → r.fresh = true → L k = true) : ∀ k, k ≤ rs.length → (cur L 0 (rs.take k) m).length = (txt (rs.take k) m).length
  | 0, _ => by simp [cur]
  | k + 1, hk => by
    have g1 := cur_len hrs h1 k (by omega)
    have hr : rs[k]? = some rs[k] := by simp
    have hok := hrs k _ hr
    have e1 := h1 k _ hr
    rw [take_snoc hr, cur_snoc, txt_snoc]
    have hlen : (rs.take k).length = k := by simp; omega
    simp only [hlen, Nat.zero_add]
    generalize rs[k] = r at hok e1
    unfold appR
    cases hL : L k with
    | true =>
      simp only [cond_true]
      cases hw : r.wr with
      | false => exact g1
      | true => simp [setF_len, g1]
    | false =>
      simp only [cond_false]
      have hfr : r.fresh = false := by
        cases h : r.fresh with
        | false => rfl
        | true => rw [e1 h] at hL; cases hL
      cases hw : r.wr with
      | false => exact g1
      | true => simp [setF_len, g1, hok.nofr hfr]
/-- one more is carried out -/
theorem cur_do (hrs : ∀ (j : Nat) (r : Rec), rs[j]? = some r → RecOK m rs j r) (hfr : ∀ (k : Nat) (r : Rec), rs[k]? = some r → r.fresh = true → L k = true) {j : Nat} {r : Rec} (hj : rs[j]? = some r) (hn : r.fresh = false) (h0 : L j = false) (hL : ∀ k, k ≠ j → L' k = L k) (hj' : L' j = true)
    (h2 : ∀ (k : Nat) (r' : Rec), rs[k]? = some r' → j < k → L k = true → r'.wr = true → ∀ q ∈ r.F, q ∉ r'.F) : ∀ d, j + 1 + d ≤ rs.length → cur L' 0 (rs.take (j + 1 + d)) m = bif r.wr then setF (cur L 0 (rs.take (j + 1 + d)) m) r.F r.D else cur L 0 (rs.take (j + 1 + d)) m
  | 0, hd => by
    have hlen : (rs.take j).length = j := by simp; omega
    rw [Nat.add_zero, take_snoc hj, cur_snoc, cur_snoc, hlen, Nat.zero_add, h0, hj']
    simp only [cond_true, cond_false]
    rw [cur_congr (L := L') (L' := L) (fun k _ hk => hL k (by rw [hlen] at hk; omega))]
    unfold appR
    rw [(hrs j r hj).nofr hn, List.append_nil]
  | d + 1, hd => by
    have ih := cur_do hrs hfr hj hn h0 hL hj' h2 d (by omega)
    have hr : rs[j + 1 + d]? = some rs[j + 1 + d] := by simp
    have e := h2 (j + 1 + d) _ hr (by omega)
    have hok := hrs _ _ hr
    have hokj := hrs _ _ hj
    have hlen : (rs.take (j + 1 + d)).length = j + 1 + d := by simp; omega
    have hcl := cur_len hrs hfr (j + 1 + d) (by omega)
    rw [show j + 1 + (d + 1) = j + 1 + d + 1 by omega, take_snoc hr, cur_snoc, cur_snoc, hlen, Nat.zero_add, hL _ (by omega), ih]
    have hF' := (getF_some hok.get).2
    rw [← hcl] at hF'
    generalize rs[j + 1 + d] = r' at e hok hF'
    have hFj : ∀ q ∈ r.F, q < (cur L 0 (rs.take (j + 1 + d)) m).length := fun q hq => by
      have h1 := (getF_some hokj.get).2 q hq
      rw [← cur_len hrs hfr j (by omega)] at h1
      have : ∀ d, j + d ≤ rs.length → (cur L 0 (rs.take j) m).length ≤ (cur L 0 (rs.take (j + d)) m).length := by
        intro d
        induction d with
        | zero => intro _; exact Nat.le_refl _
        | succ d ih =>
          intro hd
          have hr : rs[j + d]? = some rs[j + d] := by simp
          have hlen : (rs.take (j + d)).length = j + d := by simp; omega
          rw [show j + (d + 1) = j + d + 1 by omega, take_snoc hr, cur_snoc, hlen, Nat.zero_add]
          refine Nat.le_trans (ih (by omega)) ?_
          unfold appR
          cases L (j + d)
          · exact Nat.le_refl _
          · cases rs[j + d].wr
            · exact Nat.le_refl _
            · simp [setF_len]
      have := this (1 + d) (by omega)
      rw [show j + (1 + d) = j + 1 + d by omega] at this
      omega
    generalize cur L 0 (rs.take (j + 1 + d)) m = X at hF' hFj ⊢
    unfold appR
    cases hLk : L (j + 1 + d) with
    | false => rfl
    | true =>
      simp only [cond_true]
      cases hw' : r'.wr with
      | false => rfl
      | true =>
        cases hw : r.wr with
        | false => rfl
        | true =>
          simp only [cond_true]
          have hd' := e hLk hw'
          rw [setF_append (A := setF X r'.F r'.D) (fun q hq => by rw [setF_len]; exact hFj q hq)]
          rw [setF_comm hokj.rise hok.rise hokj.fd hok.fd hFj hF' hd']
end

/-- the frame as the text has it -/
def tenv : List Oper → List Rec → Env → Env
  | o :: os, r :: rs, e => tenv os rs (putE o r.x e)
  | _, _, e => e
theorem tenv_snoc {o : Oper} {r : Rec} : ∀ {os : List Oper} {rs : List Rec} {e : Env}, os.length = rs.length → tenv (os ++ [o]) (rs ++ [r]) e = putE o r.x (tenv os rs e)
  | [], [], e, _ => rfl
  | [], _ :: _, _, h => by simp at h
  | _ :: _, [], _, h => by simp at h
  | o' :: os, r' :: rs, e, h => by
    rw [List.cons_append, List.cons_append, tenv, tenv, tenv_snoc (by simpa using h)]
theorem putE_lk {o : Oper} {x : AV} {e : Env} {t : Nat} {v : AV} (h : lk (putE o x e) t = some v) : (o.dst = some t ∧ v = x) ∨ (lk e t = some v ∧ o.dst ≠ some t) := by
  unfold putE at h
  cases hd : o.dst with
  | none => rw [hd] at h; exact .inr ⟨h, by simp⟩
  | some d =>
    rw [hd] at h
    unfold lk at h
    by_cases hdt : d = t
    · subst hdt
      simp at h
      exact .inl ⟨rfl, h.symm⟩
    · simp [beq_ff hdt] at h
      exact .inr ⟨h, by simpa using hdt⟩
theorem tenv_lk : ∀ {os : List Oper} {rs : List Rec} {e : Env} {t : Nat} {v : AV}, os.length = rs.length → lk (tenv os rs e) t = some v →
    (∃ (j : Nat) (o : Oper) (r : Rec), os[j]? = some o ∧ rs[j]? = some r ∧ o.dst = some t ∧ v = r.x) ∨ (lk e t = some v ∧ ∀ (j : Nat) (o : Oper), os[j]? = some o → o.dst ≠ some t)
  | [], _, e, t, v, _, h => .inr ⟨by cases ‹List Rec› <;> exact h, by simp⟩
  | o :: os, [], e, t, v, hl, h => by simp at hl
  | o :: os, r :: rs, e, t, v, hl, h => by
    rw [tenv] at h
    rcases tenv_lk (by simpa using hl) h with ⟨j, o', r', h1, h2, h3, h4⟩ | ⟨h1, h2⟩
    · exact .inl ⟨j + 1, o', r', by simpa using h1, by simpa using h2, h3, h4⟩
    · rcases putE_lk h1 with ⟨h3, h4⟩ | ⟨h3, h4⟩
      · exact .inl ⟨0, o, r, rfl, rfl, h3, h4⟩
      · refine .inr ⟨h3, fun j o' hj => ?_⟩
        cases j with
        | zero =>
          simp at hj
          subst hj
          exact h4
        | succ j => exact h2 j o' (by simpa using hj)
theorem pick_lk {E : Env} : ∀ {ts : List Nat} {t : Nat} {v : AV}, lk (pick E ts) t = some v → t ∈ ts ∧ lk E t = some v
  | [], t, v, h => by simp [pick, lk] at h
  | u :: ts, t, v, h => by
    unfold pick at h
    split at h
    · rename_i x hx
      unfold lk at h
      by_cases hut : u = t
      · subst hut
        simp at h
        exact ⟨by simp, by rw [hx, h]⟩
      · simp [beq_ff hut] at h
        obtain ⟨h1, h2⟩ := pick_lk h
        exact ⟨by simp [h1], h2⟩
    · obtain ⟨h1, h2⟩ := pick_lk h
      exact ⟨by simp [h1], h2⟩

section
variable {P : Program} {N : Nat} {Q : Exit → Act → World → Prop} {e : Env} {s : Base} {m : List Piece} {gl : List (Nat × AV)} {l : List Oper}
/-- what is known: the first p operations -/
structure Know (P : Program) (N : Nat) (gl : List (Nat × AV)) (l : List Oper) (e : Env) (m : List Piece) (rs : List Rec) : Prop where
  le : rs.length ≤ l.length
  ok : ∀ (j : Nat) (r : Rec), rs[j]? = some r → RecOK m rs j r
  conf : ∀ (i j : Nat) (r r' : Rec), i < j → rs[i]? = some r' → rs[j]? = some r → meets r.F r'.F r.wr r'.wr = true → reach l 2 j i = true
  last : ∀ (j : Nat) (r : Rec), rs[j]? = some r → r.fresh = true → lastly l j = true
  op : ∀ (j : Nat) (r : Rec) (o : Oper), rs[j]? = some r → l[j]? = some o → r.fresh = false → OpOK P N gl l o (pick (tenv (l.take j) (rs.take j) e) (looksN l o)) r.C r.D r.x
theorem Know.add {rs : List Rec} {r : Rec} {o : Oper} (h : Know P N gl l e m rs) (ho : l[rs.length]? = some o) (hok : RecOK m rs rs.length r) (hc : Av.conf l rs.length r.F r.wr 0 rs = true) (hl : r.fresh = true → lastly l rs.length = true)
    (hop : r.fresh = false → OpOK P N gl l o (pick (tenv (l.take rs.length) rs e) (looksN l o)) r.C r.D r.x) : Know P N gl l e m (rs ++ [r]) := by
  have hlt : rs.length < l.length := (List.getElem?_eq_some_iff.1 ho).1
  have get : ∀ {j : Nat} {r' : Rec}, (rs ++ [r])[j]? = some r' → (j < rs.length ∧ rs[j]? = some r') ∨ (j = rs.length ∧ r' = r) := fun {j r'} hj => by
    rcases Nat.lt_or_ge j rs.length with hlt | hge
    · rw [List.getElem?_append_left hlt] at hj
      exact .inl ⟨hlt, hj⟩
    · rw [List.getElem?_append_right hge] at hj
      have : j - rs.length = 0 := by
        rcases Nat.eq_zero_or_pos (j - rs.length) with h | h
        · exact h
        · rw [List.getElem?_eq_none (by simp; omega)] at hj; cases hj
      rw [this] at hj
      simp at hj
      exact .inr ⟨by omega, hj.symm⟩
  have take : ∀ {j : Nat}, j ≤ rs.length → (rs ++ [r]).take j = rs.take j := fun hj => List.take_append_of_le_length hj
  refine ⟨by simp; omega, fun j r' hj => ?_, fun i j r1 r2 hij hi hj hm => ?_, fun j r' hj hf => ?_, fun j r' o' hj ho' hf => ?_⟩
  · rcases get hj with ⟨hlt, hj⟩ | ⟨rfl, rfl⟩
    · have := h.ok j r' hj
      exact ⟨by rw [take (by omega)]; exact this.get, this.len, this.rise, this.read, this.nofr, this.fr⟩
    · exact ⟨by rw [take (Nat.le_refl _), List.take_length]; have := hok.get; rwa [List.take_length] at this, hok.len, hok.rise, hok.read, hok.nofr, hok.fr⟩
  · rcases get hj with ⟨hlt, hj⟩ | ⟨rfl, rfl⟩
    · rcases get hi with ⟨_, hi⟩ | ⟨rfl, _⟩
      · exact h.conf i j r1 r2 hij hi hj hm
      · omega
    · rcases get hi with ⟨_, hi⟩ | ⟨rfl, _⟩
      · have := conf_spec hc i r2 hi hm
        rwa [Nat.zero_add] at this
      · omega
  · rcases get hj with ⟨hlt, hj⟩ | ⟨rfl, rfl⟩
    · exact h.last j r' hj hf
    · exact hl hf
  · rcases get hj with ⟨hlt, hj⟩ | ⟨rfl, rfl⟩
    · rw [take (by omega)]
      exact h.op j r' o' hj ho' hf
    · rw [ho] at ho'
      injection ho' with ho'
      subst ho'
      rw [take (Nat.le_refl _), List.take_length]
      exact hop hf
/-- what comes next: nothing, or an operation that makes something anew -/
def Next (P : Program) (N : Nat) (Q : Exit → Act → World → Prop) (s : Base) (gl : List (Nat × AV)) (l : List Oper) (e : Env) (m : List Piece) (rs : List Rec) : Prop :=
  (rs.length = l.length ∧ AE N .normal Q s (tenv l rs e) (txt rs m)) ∨
  ∃ o F C, l[rs.length]? = some o ∧ getF (txt rs m) F = some C ∧ rises 0 F = true ∧ conf l rs.length F true 0 rs = true ∧ lastly l rs.length = true ∧
      ∀ s' : Base, s'.gl = gl → AL P N l.toArray (Exit.then (fun a w => ∃ D N' x, D.length = C.length ∧ Got s' o (D ++ N') x a w ∧ Obl P N Q s gl l (l.drop (rs.length + 1)) (rs.length + 1) (setF (txt rs m) F D ++ N') (putE o x (tenv (l.take rs.length) rs e)) (rs ++ [⟨F, C, D, N', true, true, x⟩])) fun _ _ _ => False) s' [o] (pick (tenv (l.take rs.length) rs e) (looksN l o)) C
theorem unroll : ∀ (n : Nat) {rs : List Rec}, l.length - rs.length ≤ n → Know P N gl l e m rs → Obl P N Q s gl l (l.drop rs.length) rs.length (txt rs m) (tenv (l.take rs.length) rs e) rs →
    ∃ rs', Know P N gl l e m rs' ∧ Next P N Q s gl l e m rs' ∧ rs.length ≤ rs'.length ∧ rs'.take rs.length = rs ∧ ∀ (j : Nat) (r : Rec), rs.length ≤ j → rs'[j]? = some r → r.fresh = false
  | n, rs, hn, hK, hO => by
    rcases Nat.lt_or_ge rs.length l.length with hlt | hge
    · have ho : l[rs.length]? = some l[rs.length] := by simp
      rw [List.drop_eq_getElem_cons hlt] at hO
      unfold Obl at hO
      rcases hO with ⟨F, C, D, x, wr, h1, h2, h3, h4, h5, h6, h7⟩ | ⟨F, C, h1, h2, h3, h4, h5⟩
      · cases n with
        | zero => omega
        | succ n =>
          have hK' : Know P N gl l e m (rs ++ [⟨F, C, D, [], wr, false, x⟩]) := hK.add ho ⟨by rw [List.take_length]; exact h1, h2, h4, h3, fun _ => rfl, by simp⟩ h5 (by simp) (fun _ => h6)
          have hl1 : (rs ++ [(⟨F, C, D, [], wr, false, x⟩ : Rec)]).length = rs.length + 1 := by simp
          obtain ⟨rs', g1, g2, g3, g4, g5⟩ := unroll n (by omega) hK' (by
            rw [hl1, txt_snoc, take_snoc ho, tenv_snoc (by simp; omega)]
            exact h7)
          rw [hl1] at g3 g4 g5
          refine ⟨rs', g1, g2, by omega, ?_, fun j r hj hr => ?_⟩
          · have := congrArg (List.take rs.length) g4
            rw [List.take_take, Nat.min_eq_left (by omega)] at this
            rw [this, List.take_append_of_le_length (Nat.le_refl _), List.take_length]
          · rcases Nat.lt_or_ge rs.length j with h | h
            · exact g5 j r (by omega) hr
            · have hj' : j = rs.length := by omega
              subst hj'
              have : (rs'.take (rs.length + 1))[rs.length]? = some r := by rw [List.getElem?_take_of_lt (by omega)]; exact hr
              rw [g4] at this
              simp at this
              rw [← this]
      · exact ⟨rs, hK, by unfold Next; exact .inr ⟨_, F, C, ho, h1, h2, h3, h4, h5⟩, Nat.le_refl _, List.take_length, fun j r hj hr => by
          rw [List.getElem?_eq_none hj] at hr; cases hr⟩
    · rw [List.drop_eq_nil_of_le hge] at hO
      unfold Obl at hO
      have : rs.length = l.length := by have := hK.le; omega
      rw [this, List.take_length] at hO
      exact ⟨rs, hK, by unfold Next; exact .inl ⟨this, hO⟩, Nat.le_refl _, List.take_length, fun j r hj hr => by
        rw [List.getElem?_eq_none hj] at hr; cases hr⟩
end
end Av

namespace Av
open Go Go.RowKit Tw
section
variable {P : Program} {N : Nat} {Q : Exit → Act → World → Prop} {e : Env} {s : Base} {m : List Piece} {gl : List (Nat × AV)} {l : List Oper}
theorem ready_reach {l : List Oper} {listed : Array Bool} {i : Nat} (hsz : listed.size = l.length) (hb : ∀ i o, l[i]? = some o → ∀ x ∈ o.after, Region.binds .any x = true → x.on < i) (hi : i ∈ Region.ready .any l.toArray listed) (hin : i < l.length) (hcl : ∀ k j, k < l.length → listed.getD k true = true → dirE l k j = true → listed.getD j true = true) : ∀ {n j : Nat}, reach l n i j = true → listed.getD j true = true
  | 0, j, h => by
    have := dirE_listed hi h
    rcases Nat.lt_or_ge j listed.size with hj | hj
    · rwa [getD_dflt hj true false]
    · simp [Array.getD, Nat.not_lt.2 hj]
  | n + 1, j, h => by
    unfold reach at h
    rw [Bool.or_eq_true] at h
    rcases h with h | h
    · exact ready_reach hsz hb hi hin hcl (n := 0) h
    · obtain ⟨k, hk, hk2⟩ := List.any_eq_true.1 h
      simp only [Bool.and_eq_true] at hk2
      have hki : k < i := by simpa using hk
      have h1 := ready_reach hsz hb hi hin hcl (n := 0) hk2.1
      exact reach_listed hsz hcl (by omega) h1 hk2.2
theorem no_out {K' : Act → World → Prop} (h : LetsOut (Exit.then K' fun _ _ _ => False)) : False := by
  obtain ⟨a, w, h⟩ := h
  exact h
theorem wp_false {o : Oper} {a : Act} {w : World} {K K' : Act → World → Prop} (h : o.wp P a w K (Exit.then K' fun _ _ _ => False)) : o.wp P a w K Q := by
  unfold Oper.wp at *
  generalize hr : (execOp a.eval o).run P w = r at *
  cases r with
  | ok n w' =>
    cases n <;> simp only [Oper.upon] at h ⊢
    case enter f args => exact Calls.mono h (fun x w'' hx => by cases x <;> first | exact hx | exact (no_out hx).elim | exact hx.elim)
    all_goals first | exact h | exact h.elim
  | halt x w' => cases x <;> simp only [Oper.upon] at h ⊢ <;> first | exact h | exact h.elim
theorem put_other {a : Act} {d : Option Nat} {v : Value} {t : Nat} (h : d ≠ some t) : (a.put d v).tmps.getD t undef = a.tmps.getD t undef := by
  cases d with
  | none => simp [Act.put]
  | some d =>
    have : d ≠ t := by simpa using h
    simp [Act.put, Array.getD_eq_getD_getElem?, Array.getElem?_setIfInBounds_ne this]
theorem put_size {a : Act} {d : Option Nat} {v : Value} : (a.put d v).tmps.size = a.tmps.size := by
  cases d <;> simp [Act.put]
/-- where the run stands -/
structure Inv (N : Nat) (s : Base) (l : List Oper) (e : Env) (m : List Piece) (rs : List Rec) (listed : Array Bool) (a : Act) (ok : Ok) (w : World) : Prop where
  sz : listed.size = l.length
  cl : ∀ k j, k < l.length → listed.getD k true = true → dirE l k j = true → listed.getD j true = true
  hi : ∀ j, rs.length ≤ j → listed.getD j false = false
  fr : ∀ (j : Nat) (r : Rec), rs[j]? = some r → r.fresh = true → listed.getD j false = true
  tm : a.tmps.size = N
  df : a.defers = []
  vals : ∀ (j : Nat) (r : Rec) (o : Oper) (d : Nat), rs[j]? = some r → l[j]? = some o → listed.getD j false = true → o.dst = some d → RV ok w r.x (a.tmps.getD d undef)
  base : ∀ (t : Nat) (v : AV), lk e t = some v → (∀ (j : Nat) (o : Oper), l[j]? = some o → listed.getD j false = true → o.dst ≠ some t) → RV ok w v (a.tmps.getD t undef)
  st : St s ok (cur (fun j => listed.getD j false) 0 rs m) w
theorem getD_ff {listed : Array Bool} {j n : Nat} (hsz : listed.size = n) (hj : j < n) {b : Bool} (h : listed.getD j true = b) : listed.getD j false = b := by rw [getD_dflt (by omega) false true]; exact h
theorem getD_setF {listed : Array Bool} {i j : Nat} (hi : i < listed.size) : (listed.setIfInBounds i true).getD j false = if i = j then true else listed.getD j false := by
  by_cases h : i = j
  · subst h; simp [Array.getD, hi]
  · simp [Array.getD_eq_getD_getElem?, Array.getElem?_setIfInBounds_ne h, h]
/-- what an operation that is ready looks at is there -/
theorem Inv.look {rs : List Rec} {listed : Array Bool} {a : Act} {ok : Ok} {w : World} (hc : ChkR N l) (_hK : Know P N gl l e m rs) (hI : Inv N s l e m rs listed a ok w) {i : Nat} {o : Oper} (hi : i ∈ Region.ready .any l.toArray listed) (ho : l[i]? = some o) (hir : i ≤ rs.length) :
    Sat N ok w (pick (tenv (l.take i) (rs.take i) e) (looksN l o)) a := by
  have hin : i < l.length := (List.getElem?_eq_some_iff.1 ho).1
  have hi0 : listed.getD i false = false := getD_ff hI.sz hin (mem_ready.1 hi).1
  have hreach : ∀ {j : Nat}, reach l 2 i j = true → j < l.length → listed.getD j false = true := fun h hj => getD_ff hI.sz hj (ready_reach hI.sz hc.back hi hin hI.cl h)
  have hlen : (l.take i).length = (rs.take i).length := by simp; omega
  refine ⟨hI.tm, hI.df, fun t v ht => ?_⟩
  obtain ⟨h1, h2⟩ := pick_lk ht
  rcases tenv_lk hlen h2 with ⟨j, o', r, h3, h4, h5, rfl⟩ | ⟨h3, h4⟩
  · have hj : j < i := by have := (List.getElem?_eq_some_iff.1 h3).1; simp at this; omega
    rw [List.getElem?_take_of_lt hj] at h3 h4
    have := (hc.looks i j o o' t ho h3 h5 h1 (by omega)).1 hj
    exact hI.vals j r o' t h4 h3 (hreach this (by omega)) h5
  · refine hI.base t v h3 fun j o' hj hl hd => ?_
    have hjl : j < l.length := (List.getElem?_eq_some_iff.1 hj).1
    rcases Nat.lt_trichotomy j i with hlt | rfl | hgt
    · exact h4 j o' (by rw [List.getElem?_take_of_lt hlt]; exact hj) hd
    · rw [hi0] at hl; cases hl
    · have := (hc.looks i j o o' t ho hj hd h1 (by omega)).2 hgt
      have hl' : listed.getD j true = true := by rw [getD_dflt (by have := hI.sz; omega) true false]; exact hl
      have := reach_listed hI.sz hI.cl hjl hl' this
      rw [(mem_ready.1 hi).1] at this
      cases this
theorem run_op {o : Oper} {i : Nat} {a : Act} {w : World} {K next : Act → World → Prop} (ho : l[i]? = some o) (h : wpList P l.toArray (Exit.then K fun _ _ _ => False) [o] a w)
    (hn : ∀ a' w', K a' w' → ((∃ v, a' = a.put o.dst v) ∨ a'.defers ≠ []) → next a' w') : wpOp P l.toArray Q i next a w := by
  unfold wpList at h
  simp only [wpOp, List.getElem?_toArray, ho]
  split
  · rename_i hw
    simp only [hw, if_true] at h
    rcases h with h | ⟨h1, h2⟩
    · left
      have := wp_frame h
      exact Oper.wp_mono (fun a' w' h => hn a' w' h.1 h.2) (wp_false this)
    · exact (no_out h2).elim
  · rename_i hw
    simp only [hw] at h
    exact hn _ _ h (.inl ⟨_, rfl⟩)
theorem Inv.next {rs : List Rec} {listed : Array Bool} {a a' : Act} {ok ok' : Ok} {w w' : World} {i : Nat} {o : Oper} {r : Rec} {rs' : List Rec} (hc : ChkR N l) (hI : Inv N s l e m rs listed a ok w) (hi : i ∈ Region.ready .any l.toArray listed) (ho : l[i]? = some o)
    (hput : ∃ v, a' = a.put o.dst v) (hdf : a'.defers = []) (hst : Stp ok w ok' w') (hx : ∀ d, o.dst = some d → RV ok' w' r.x (a'.tmps.getD d undef))
    (hr : rs'[i]? = some r) (hold : ∀ j, j ≠ i → listed.getD j false = true → rs'[j]? = rs[j]?) (hlen : rs'.length ≥ rs.length) (hir : i < rs'.length) (hfr : ∀ (j : Nat) (r : Rec), rs'[j]? = some r → r.fresh = true → j = i ∨ listed.getD j false = true)
    (hS : St s ok' (cur (fun j => (listed.setIfInBounds i true).getD j false) 0 rs' m) w') : Inv N s l e m rs' (listed.setIfInBounds i true) a' ok' w' := by
  obtain ⟨v, rfl⟩ := hput
  have hin : i < l.length := (List.getElem?_eq_some_iff.1 ho).1
  have his : i < listed.size := by rw [hI.sz]; exact hin
  refine ⟨by simpa using hI.sz, fun k j hk hkl hd => ?_, fun j hj => ?_, fun j r' hj hf => ?_, by rw [put_size]; exact hI.tm, hdf, fun j r' o' d hj ho' hl hd => ?_, fun t u ht hno => ?_, hS⟩
  · rw [Tw.getD_set his] at hkl ⊢
    split
    · rfl
    · by_cases hik : i = k
      · subst hik
        have := dirE_listed hi hd
        rcases Nat.lt_or_ge j listed.size with h | h
        · rwa [getD_dflt h true false]
        · simp [Array.getD, Nat.not_lt.2 h]
      · rw [if_neg hik] at hkl
        exact hI.cl k j hk hkl hd
  · rw [getD_setF his, if_neg (by omega)]
    exact hI.hi j (by omega)
  · rw [getD_setF his]
    rcases hfr j r' hj hf with rfl | h
    · simp
    · simp [h]
  · rw [getD_setF his] at hl
    by_cases hij : i = j
    · subst hij
      rw [ho] at ho'
      injection ho' with ho'
      subst ho'
      rw [hr] at hj
      injection hj with hj
      subst hj
      exact hx d hd
    · rw [if_neg hij] at hl
      rw [hold j (Ne.symm hij) hl] at hj
      rw [put_other (fun h => hij (hc.nodup i j o o' d ho ho' h hd))]
      exact (hI.vals j r' o' d hj ho' hl hd).stp hst
  · have hne : o.dst ≠ some t := hno i o ho (by rw [getD_setF his, if_pos rfl])
    rw [put_other hne]
    exact (hI.base t u ht fun j o' hj hl => hno j o' hj (by rw [getD_setF his]; split <;> first | rfl | exact hl)).stp hst
theorem wpAny_draw (hg : s.gl = gl) (hc : ChkR N l) : ∀ (fuel : Nat) (rs : List Rec) (listed : Array Bool) (a : Act) (ok : Ok) (w : World), Know P N gl l e m rs → Next P N Q s gl l e m rs → Inv N s l e m rs listed a ok w → left l.length listed ≤ fuel → wpAny P .any l.toArray Q fuel listed a w
  | fuel, rs, listed, a, ok, w, hK, hN, hI, hf => by
    have hsz := hI.sz
    by_cases hall : ∀ j, j < l.length → listed.getD j true = true
    · have hnil : Region.ready .any l.toArray listed = [] := by
        cases hr : Region.ready .any l.toArray listed with
        | nil => rfl
        | cons i is =>
          have hi : i ∈ Region.ready .any l.toArray listed := by rw [hr]; simp
          obtain ⟨h0, o, ho, _⟩ := mem_ready.1 hi
          have hin : i < l.length := by have := (Array.getElem?_eq_some_iff.1 ho).1; simpa using this
          rw [hall i hin] at h0
          cases h0
      have hn : Q .normal a w := by
        unfold Next at hN
        rcases hN with ⟨hlen, hE⟩ | ⟨o, F, C, ho, _⟩
        · refine hE.run ok w a ?_ ⟨hI.tm, hI.df, fun t v ht => ?_⟩
          · rw [show txt rs m = cur (fun j => listed.getD j false) 0 rs m from cur_congr fun j _ hj => (getD_ff hsz (by omega) (hall j (by omega))).symm]
            exact hI.st
          · rcases tenv_lk (by omega) ht with ⟨j, o, r, h1, h2, h3, rfl⟩ | ⟨h1, h2⟩
            · have hj : j < l.length := (List.getElem?_eq_some_iff.1 h1).1
              exact hI.vals j r o t h2 h1 (getD_ff hsz hj (hall j hj)) h3
            · exact hI.base t v h1 fun j o hj _ => h2 j o hj
        · have hlt : rs.length < l.length := (List.getElem?_eq_some_iff.1 ho).1
          have := hI.hi rs.length (Nat.le_refl _)
          rw [getD_ff hsz hlt (hall _ hlt)] at this
          cases this
      cases fuel with
      | zero => exact ⟨hnil, hn⟩
      | succ fuel => exact ⟨fun _ => hn, fun i hi => by rw [hnil] at hi; simp at hi⟩
    · have hex : ∃ j, j < l.length ∧ listed.getD j true = false := by
        obtain ⟨j, hj⟩ := Classical.not_forall.1 hall
        obtain ⟨hj1, hj2⟩ := Classical.not_imp.1 hj
        exact ⟨j, hj1, by simpa using hj2⟩
      have hleast : ∃ t, (t < l.length ∧ listed.getD t true = false) ∧ ∀ i, i < t → listed.getD i true = true := by
        obtain ⟨j, hj⟩ := hex
        induction j using Nat.strongRecOn with
        | ind j ih =>
          by_cases h : ∃ i, i < j ∧ listed.getD i true = false
          · obtain ⟨i, h1, h2⟩ := h
            exact ih i h1 ⟨by omega, h2⟩
          · exact ⟨j, hj, fun i hi => by
              cases hh : listed.getD i true
              · exact (h ⟨i, hi, hh⟩).elim
              · rfl⟩
      obtain ⟨t, ⟨ht1, ht2⟩, ht3⟩ := hleast
      have htr : t ∈ Region.ready .any l.toArray listed := by
        refine mem_ready.2 ⟨ht2, l[t], by simp, fun x hx hb => ?_⟩
        have hb1 := hc.back t l[t] (List.getElem?_eq_getElem (by omega)) x hx hb
        rw [getD_dflt (by omega) false true]
        exact ht3 _ hb1
      have hpos : 0 < left l.length listed := by
        unfold left
        exact List.countP_pos_iff.2 ⟨t, by simp; omega, by rw [ht2]; rfl⟩
      cases fuel with
      | zero => omega
      | succ fuel =>
        refine ⟨fun hr => (by rw [hr] at htr; simp at htr), fun i hi => ?_⟩
        obtain ⟨hi0, o, hio, hdeps⟩ := mem_ready.1 hi
        have hio : l[i]? = some o := by simpa using hio
        have hin : i < l.length := (List.getElem?_eq_some_iff.1 hio).1
        have his : i < listed.size := by omega
        have hi0' : listed.getD i false = false := getD_ff hsz hin hi0
        have hleft : left l.length (listed.setIfInBounds i true) ≤ fuel := by
          have := left_set hsz hin hi0
          omega
        have hreach : ∀ {j : Nat}, reach l 2 i j = true → j < l.length → listed.getD j false = true := fun h hj => getD_ff hsz hj (ready_reach hsz hc.back hi hin hI.cl h)
        have hup : ∀ {j : Nat}, reach l 2 j i = true → j < l.length → listed.getD j false = false := fun {j} h hj => by
          cases hh : listed.getD j false with
          | false => rfl
          | true =>
            have hl' : listed.getD j true = true := by rw [getD_dflt (by omega) true false]; exact hh
            have := reach_listed hsz hI.cl hj hl' h
            rw [hi0] at this
            cases this
        rcases Nat.lt_or_ge i rs.length with hlt | hge
        · -- an operation that is known
          have hr : rs[i]? = some rs[i] := by simp
          generalize rs[i] = r at hr
          have hok := hK.ok i r hr
          have hnf : r.fresh = false := by
            cases h : r.fresh with
            | false => rfl
            | true => rw [hI.fr i r hr h] at hi0'; cases hi0'
          have hop := hK.op i r o hr hio hnf
          have hS := hI.look hc hK hi hio (by omega)
          have hget : getF (cur (fun j => listed.getD j false) 0 rs m) r.F = some r.C := by
            rw [← hok.get]
            refine getF_congr fun q hq => cur_at hK.ok (by omega) (fun k r' hk hki => ⟨hI.fr k r' hk, fun hw hqk => ?_⟩) (fun k r' hk hik hl hw hqk => ?_) ((getF_some hok.get).2 q hq)
            · exact hreach (hK.conf k i r r' hki hk hr (meets_mem hq hqk (.inr hw))) (by have := hK.le; have := (List.getElem?_eq_some_iff.1 hk).1; omega)
            · rcases Nat.lt_or_ge i k with h | h
              · have := hup (hK.conf i k r' r h hr hk (meets_mem hqk hq (.inl hw))) (by have := hK.le; have := (List.getElem?_eq_some_iff.1 hk).1; omega)
                rw [this] at hl
                cases hl
              · have : k = i := by omega
                subst this
                rw [hi0'] at hl
                cases hl
          obtain ⟨rest, hp1, hp2⟩ := permF hok.rise hget hok.len
          have hSt := hI.st.perm hp1.symm
          have hw := (hop (lent s.gl r.C ok w) hg).run ok w a hSt.lend hS
          refine run_op hio hw fun a' w' hG hput => ?_
          obtain ⟨hdf, ok', hS', hx⟩ := hG
          rcases hput with hput | h
          · refine wpAny_draw hg hc fuel rs _ a' ok' w' hK hN (hI.next hc hi hio hput hdf hS'.stp hx hr (fun _ _ _ => rfl) (Nat.le_refl _) hlt (fun j r' hj hf => .inr (hI.fr j r' hj hf)) ?_) hleft
            have hdo := cur_do (L := fun j => listed.getD j false) (L' := fun j => (listed.setIfInBounds i true).getD j false) hK.ok (fun k r' hk hf => hI.fr k r' hk hf) hr hnf hi0' (fun k hk => by
              rw [getD_setF his, if_neg (Ne.symm hk)]) (by rw [getD_setF his, if_pos rfl]) (fun k r' hk hik hl hw q hq hqk => by
              have := hup (hK.conf i k r' r hik hr hk (meets_mem hqk hq (.inl hw))) (by have := hK.le; have := (List.getElem?_eq_some_iff.1 hk).1; omega)
              rw [this] at hl
              cases hl) (rs.length - (i + 1)) (by omega)
            rw [show i + 1 + (rs.length - (i + 1)) = rs.length by omega, List.take_length] at hdo
            rw [hdo]
            have hback := hSt.back hS'
            cases hwr : r.wr with
            | true =>
              simp only [cond_true]
              exact hback.perm hp2
            | false =>
              simp only [cond_false]
              rw [hok.read hwr] at hback
              exact hback.perm hp1
          · exact absurd hdf h
        · -- one that makes something anew
          unfold Next at hN
          rcases hN with ⟨hlen, _⟩ | ⟨o', F, C, ho', h1, h2, h3, h4, h5⟩
          · omega
          · have hipe : i = rs.length := by
              rcases Nat.lt_or_ge rs.length i with h | h
              · have hl := List.all_eq_true.1 h4 i (by simpa using hin)
                rw [Bool.or_eq_true] at hl
                rcases hl with hl | hl
                · have := Nat.le_of_ble_eq_true hl; omega
                · have := hreach hl (by omega)
                  rw [hI.hi rs.length (Nat.le_refl _)] at this
                  cases this
              · omega
            subst hipe
            rw [hio] at ho'
            injection ho' with ho'
            subst ho'
            have hS := hI.look hc hK hi hio (Nat.le_refl _)
            rw [List.take_length] at hS
            have hget : getF (cur (fun j => listed.getD j false) 0 rs m) F = some C := by
              rw [← h1]
              refine getF_congr fun q hq => ?_
              have := cur_at (L := fun j => listed.getD j false) (q := q) (j := rs.length) hK.ok (Nat.le_refl _) (fun k r' hk hki => ⟨hI.fr k r' hk, fun hw hqk => ?_⟩) (fun k r' hk hik => by rw [List.getElem?_eq_none hik] at hk; cases hk) (by rw [List.take_length]; exact (getF_some h1).2 q hq)
              · rwa [List.take_length] at this
              · have := conf_spec h3 k r' hk (meets_mem hq hqk (.inr hw))
                rw [Nat.zero_add] at this
                exact hreach this (by omega)
            have hgl := getF_some h1
            have hw := (h5 (lent s.gl C ok w) hg).run ok w a
            obtain ⟨rest, hp1, _⟩ := permF (D := C) h2 hget rfl
            have hSt := hI.st.perm hp1.symm
            refine run_op hio (hw hSt.lend hS) fun a' w' hG hput => ?_
            obtain ⟨D, N', x, hD, ⟨hdf, ok', hS', hx⟩, hO⟩ := hG
            rcases hput with hput | h
            · have hok' : RecOK m rs rs.length ⟨F, C, D, N', true, true, x⟩ := ⟨by rw [List.take_length]; exact h1, hD, h2, by simp, by simp, by simp⟩
              have hK' : Know P N gl l e m (rs ++ [⟨F, C, D, N', true, true, x⟩]) := hK.add hio hok' h3 (fun _ => h4) (by simp)
              have hl1 : (rs ++ [(⟨F, C, D, N', true, true, x⟩ : Rec)]).length = rs.length + 1 := by simp
              obtain ⟨rs', g1, g2, g3, g4, g5⟩ := unroll (Q := Q) (s := s) l.length (by omega) hK' (by
                rw [hl1, txt_snoc, take_snoc hio, tenv_snoc (by simp; omega)]
                exact hO)
              rw [hl1] at g3 g4 g5
              have hget' : ∀ j, j < rs.length → rs'[j]? = rs[j]? := fun j hj => by
                have : (rs'.take (rs.length + 1))[j]? = (rs ++ [(⟨F, C, D, N', true, true, x⟩ : Rec)])[j]? := by rw [g4]
                rwa [List.getElem?_take_of_lt (by omega), List.getElem?_append_left hj] at this
              have hri : rs'[rs.length]? = some ⟨F, C, D, N', true, true, x⟩ := by
                have : (rs'.take (rs.length + 1))[rs.length]? = (rs ++ [(⟨F, C, D, N', true, true, x⟩ : Rec)])[rs.length]? := by rw [g4]
                rw [List.getElem?_take_of_lt (by omega)] at this
                simpa using this
              refine wpAny_draw hg hc fuel rs' _ a' ok' w' g1 g2 (hI.next hc hi hio hput hdf hS'.stp hx hri (fun j hj hl => hget' j ?_) (by omega) (by omega) (fun j r' hj hf => ?_) ?_) hleft
              · rcases Nat.lt_or_ge j rs.length with h | h
                · exact h
                · rw [hI.hi j h] at hl; cases hl
              · rcases Nat.lt_trichotomy j rs.length with h | h | h
                · rw [hget' j h] at hj
                  exact .inr (hI.fr j r' hj hf)
                · exact .inl h
                · have := g5 j r' (by omega) hj
                  rw [this] at hf; cases hf
              · have hsplit : rs' = (rs ++ [⟨F, C, D, N', true, true, x⟩]) ++ rs'.drop (rs.length + 1) := by
                  rw [← g4, List.take_append_drop]
                have hrest : ∀ (qs : List Rec) (k : Nat) (T : List Piece), rs.length + 1 ≤ k → cur (fun j => (listed.setIfInBounds rs.length true).getD j false) k qs T = T := by
                  intro qs
                  induction qs with
                  | nil => intro k T _; rfl
                  | cons q qs ih =>
                    intro k T hk
                    rw [cur]
                    have : (listed.setIfInBounds rs.length true).getD k false = false := by
                      rw [getD_setF his, if_neg (by omega)]
                      exact hI.hi k (by omega)
                    rw [this]
                    exact ih (k + 1) T (by omega)
                have happ : ∀ (as bs : List Rec) (k : Nat) (T : List Piece) (L : Nat → Bool), cur L k (as ++ bs) T = cur L (k + as.length) bs (cur L k as T) := by
                  intro as
                  induction as with
                  | nil => intro bs k T L; rfl
                  | cons q as ih =>
                    intro bs k T L
                    rw [List.cons_append, cur, cur, ih]
                    simp only [List.length_cons, show k + 1 + as.length = k + (as.length + 1) by omega]
                rw [hsplit, happ, hrest _ _ _ (by simp), cur_snoc]
                have : (listed.setIfInBounds rs.length true).getD (0 + rs.length) false = true := by rw [Nat.zero_add, getD_setF his, if_pos rfl]
                rw [this]
                simp only [cond_true, appR]
                rw [cur_congr (L' := fun j => listed.getD j false) (fun j _ hj => by
                  rw [getD_setF his, if_neg (by omega)])]
                obtain ⟨rest2, q1, q2⟩ := permF (D := D) h2 hget hD
                have hback := hSt.back hS'
                have hpr : rest.Perm rest2 := (List.perm_append_left_iff C).1 (hp1.symm.trans q1)
                refine hback.perm ?_
                rw [List.append_assoc]
                refine (List.Perm.append_right N' q2).trans ?_
                rw [List.append_assoc]
                exact List.Perm.append_left D (List.perm_append_comm.trans (List.Perm.append_left N' hpr.symm))
            · exact absurd hdf h
/-- A REGION THAT DRAWS ITS ORDER -/
theorem any_draw (hg : s.gl = gl) (hc : chkR N l = true) (ho : Obl P N Q s gl l l 0 m e []) {ok : Ok} {w : World} {a : Act} (hS : St s ok m w) (ha : Sat N ok w e a) : wpAny P .any l.toArray Q l.toArray.size (Array.replicate l.toArray.size false) a { w with drawn := w.drawn + 1 } := by
  have e1 : Ext w { w with drawn := w.drawn + 1 } := Ext.drew w
  have hK : Know P N gl l e m [] := ⟨Nat.zero_le _, by simp, by simp, by simp, by simp⟩
  obtain ⟨rs, g1, g2, _, _, g5⟩ := unroll (P := P) (Q := Q) (s := s) l.length (by simp) hK (by simpa [cur, tenv] using ho)
  have hall : ∀ j, (Array.replicate l.toArray.size false).getD j false = false := fun j => by
    simp [Array.getD]
  have hcur : ∀ (rs : List Rec) (k : Nat) (T : List Piece), cur (fun j => (Array.replicate l.toArray.size false).getD j false) k rs T = T := by
    intro rs
    induction rs with
    | nil => intro k T; rfl
    | cons q rs ih =>
      intro k T
      rw [cur, hall k]
      exact ih (k + 1) T
  refine wpAny_draw hg (ChkR.of hc) _ rs _ a ok _ g1 g2 ⟨by simp, fun k j hk h => ?_, fun j _ => hall j, fun j r hj hf => ?_, ha.size, ha.defers, fun j r o d hj ho' hl => ?_, fun t v ht _ => (ha.env t v ht).stp (Ext.astp e1 ok), ?_⟩ ?_
  · rw [getD_dflt (by simpa using hk) true false, hall k] at h; cases h
  · have := g5 j r (Nat.zero_le _) hj
    rw [this] at hf; cases hf
  · rw [hall j] at hl; cases hl
  · rw [hcur]
    exact hS.ext e1
  · unfold left
    exact Nat.le_trans List.countP_le_length (by simp)
theorem ac_draw {id : Nat} (hm : P.follows .mixedOrders = true) (hg : s.gl = gl) (hc : chkR N l = true) (ho : Obl P N Q s gl l l 0 m e []) : AC P N (.region id l.toArray true) Q s e m := AC.mk fun _ok _w _a hS ha => wp_region_any hm (any_draw hg hc ho hS ha)
end
end Av

namespace Av
open Go Go.RowKit Tw
class Mixed (P : Program) : Prop where
  out : P.follows .mixedOrders = true
section
variable {P : Program} {N : Nat} {Q : Exit → Act → World → Prop} {e : Env} {s : Base} {m T : List Piece} {gl : List (Nat × AV)} {l os : List Oper} {i : Nat} {E : Env} {rs : List Rec} {d : Nat} {op : Op} {ty : TypeId} {pos : String} {af : Array Edge} {gd : Option (Nat × Bool)} {C D : List Piece} {x : AV}
theorem ae_got {o : Oper} (ho : o.dst = some d) (hx : lk e d = some x) : AE N .normal (Exit.then (Got s o m x) Q) s e m := AE.mk fun ok w a hS ha => ⟨ha.defers, ok, hS, fun d' hd' => by
  rw [ho] at hd'
  injection hd' with hd'
  subst hd'
  exact ha.env d x hx⟩
theorem ae_gotN {o : Oper} (ho : o.dst = none) : AE N .normal (Exit.then (Got s o m x) Q) s e m := AE.mk fun ok w a hS ha => ⟨ha.defers, ok, hS, fun d' hd' => by rw [ho] at hd'; cases hd'⟩
theorem obl_nil (h : AE N .normal Q s E T) : Obl P N Q s gl l [] i T E rs := by
  unfold Obl
  exact h
theorem obl_read (F : List Nat) (h1 : getF T F = some C) (h2 : rises 0 F = true) (h3 : conf l i F false 0 rs = true) (hop : ∀ s' : Base, s'.gl = gl → AL P N l.toArray (Exit.then (Got s' ⟨some d, op, ty, pos, af, gd⟩ C x) fun _ _ _ => False) s' [⟨some d, op, ty, pos, af, gd⟩] (pick E (looksN l ⟨some d, op, ty, pos, af, gd⟩)) C)
    (hrest : Obl P N Q s gl l os (i + 1) T ((d, x) :: E) (rs ++ [⟨F, C, C, [], false, false, x⟩])) : Obl P N Q s gl l (⟨some d, op, ty, pos, af, gd⟩ :: os) i T E rs := by
  unfold Obl
  exact .inl ⟨F, C, C, x, false, h1, rfl, fun _ => rfl, h2, h3, hop, hrest⟩
theorem obl_write (F : List Nat) (h1 : getF T F = some C) (h2 : rises 0 F = true) (h3 : conf l i F true 0 rs = true) (hop : ∀ s' : Base, s'.gl = gl → AL P N l.toArray (Exit.then (Got s' ⟨some d, op, ty, pos, af, gd⟩ D x) fun _ _ _ => False) s' [⟨some d, op, ty, pos, af, gd⟩] (pick E (looksN l ⟨some d, op, ty, pos, af, gd⟩)) C)
    (hl : Nat.beq D.length C.length = true) {T' : List Piece} (hT : setF T F D = T') (hrest : Obl P N Q s gl l os (i + 1) T' ((d, x) :: E) (rs ++ [⟨F, C, D, [], true, false, x⟩])) : Obl P N Q s gl l (⟨some d, op, ty, pos, af, gd⟩ :: os) i T E rs := by
  subst hT
  unfold Obl
  exact .inl ⟨F, C, D, x, true, h1, Nat.eq_of_beq_eq_true hl, by simp, h2, h3, hop, by simpa [putE] using hrest⟩
theorem obl_writeN (F : List Nat) (h1 : getF T F = some C) (h2 : rises 0 F = true) (h3 : conf l i F true 0 rs = true) (hop : ∀ s' : Base, s'.gl = gl → AL P N l.toArray (Exit.then (Got s' ⟨none, op, ty, pos, af, gd⟩ D (.tup [])) fun _ _ _ => False) s' [⟨none, op, ty, pos, af, gd⟩] (pick E (looksN l ⟨none, op, ty, pos, af, gd⟩)) C)
    (hl : Nat.beq D.length C.length = true) {T' : List Piece} (hT : setF T F D = T') (hrest : Obl P N Q s gl l os (i + 1) T' E (rs ++ [⟨F, C, D, [], true, false, .tup []⟩])) : Obl P N Q s gl l (⟨none, op, ty, pos, af, gd⟩ :: os) i T E rs := by
  subst hT
  unfold Obl
  exact .inl ⟨F, C, D, .tup [], true, h1, Nat.eq_of_beq_eq_true hl, by simp, h2, h3, hop, by simpa [putE] using hrest⟩
theorem obl_fresh (F : List Nat) (h1 : getF T F = some C) (h2 : rises 0 F = true) (h3 : conf l i F true 0 rs = true) (h4 : lastly l i = true) (hop : ∀ s' : Base, s'.gl = gl → AL P N l.toArray (Exit.then (fun a w => ∃ D N' x, D.length = C.length ∧ Got s' ⟨some d, op, ty, pos, af, gd⟩ (D ++ N') x a w ∧ Obl P N Q s gl l os (i + 1) (setF T F D ++ N') ((d, x) :: E) (rs ++ [⟨F, C, D, N', true, true, x⟩])) fun _ _ _ => False) s' [⟨some d, op, ty, pos, af, gd⟩] (pick E (looksN l ⟨some d, op, ty, pos, af, gd⟩)) C) :
    Obl P N Q s gl l (⟨some d, op, ty, pos, af, gd⟩ :: os) i T E rs := by
  unfold Obl
  exact .inr ⟨F, C, h1, h2, h3, h4, hop⟩
/-- something new is made: the new pieces stand behind -/
theorem ae_fresh {o : Oper} {K : List Piece → List Piece → AV → Prop} (D N' : List Piece) (ho : o.dst = some d) (hx : lk e d = some x) (hm : m.Perm (D ++ N')) (hl : Nat.beq D.length C.length = true) (h : K D N' x) : AE N .normal (Exit.then (fun a w => ∃ D N' x, D.length = C.length ∧ Got s o (D ++ N') x a w ∧ K D N' x) Q) s e m := AE.mk fun ok w a hS ha =>
  ⟨D, N', x, Nat.eq_of_beq_eq_true hl, ⟨ha.defers, ok, hS.perm hm.symm, fun d' hd' => by
    rw [ho] at hd'
    injection hd' with hd'
    subst hd'
    exact ha.env d x hx⟩, h⟩
theorem ac_draw' [hm : Mixed P] {id : Nat} (hg : s.gl = gl) (hc : chkR N l = true) (ho : Obl P N Q s gl l l 0 m e []) : AC P N (.region id l.toArray true) Q s e m := ac_draw hm.out hg hc ho
end
/-- what is left to show -/
structure Wr (p : Prop) : Prop where
  o : p
section
variable {P : Program} {N : Nat} {ops : Array Oper} {Q : Exit → Act → World → Prop} {rest l : List Oper} {s : Base} {e : Env} {m : List Piece} {dst : Option Nat} {ty : TypeId} {pos : String} {af : Array Edge}
/- which kind of step is next -/
theorem kL (h : AL P N ops Q s l e m) : AL P N ops Q s l e m := h
theorem kG {op : Op} {g : Nat × Bool} (h : AL P N ops Q s (⟨dst, op, ty, pos, af, some g⟩ :: rest) e m) : AL P N ops Q s (⟨dst, op, ty, pos, af, some g⟩ :: rest) e m := h
theorem kMove {x : Operand} (h : AL P N ops Q s (⟨dst, .move x, ty, pos, af, none⟩ :: rest) e m) : AL P N ops Q s (⟨dst, .move x, ty, pos, af, none⟩ :: rest) e m := h
theorem kLoad {T : TypeId} {x : Operand} (h : AL P N ops Q s (⟨dst, .load T x, ty, pos, af, none⟩ :: rest) e m) : AL P N ops Q s (⟨dst, .load T x, ty, pos, af, none⟩ :: rest) e m := h
theorem kStore {T : TypeId} {x y : Operand} (h : AL P N ops Q s (⟨dst, .store T x y, ty, pos, af, none⟩ :: rest) e m) : AL P N ops Q s (⟨dst, .store T x y, ty, pos, af, none⟩ :: rest) e m := h
theorem kFieldA {T : TypeId} {x : Operand} {i : Nat} (h : AL P N ops Q s (⟨dst, .fieldAddr T x i, ty, pos, af, none⟩ :: rest) e m) : AL P N ops Q s (⟨dst, .fieldAddr T x i, ty, pos, af, none⟩ :: rest) e m := h
theorem kCallF {f : FuncId} {xs : Array Operand} {ts : Array TypeId} (h : AL P N ops Q s (⟨dst, .call ⟨.value (.func f), xs, ts⟩, ty, pos, af, none⟩ :: rest) e m) : AL P N ops Q s (⟨dst, .call ⟨.value (.func f), xs, ts⟩, ty, pos, af, none⟩ :: rest) e m := h
theorem kCallV {x : Operand} {xs : Array Operand} {ts : Array TypeId} (h : AL P N ops Q s (⟨dst, .call ⟨.value x, xs, ts⟩, ty, pos, af, none⟩ :: rest) e m) : AL P N ops Q s (⟨dst, .call ⟨.value x, xs, ts⟩, ty, pos, af, none⟩ :: rest) e m := h
theorem kCallB {b : Builtin} {xs : Array Operand} {ts : Array TypeId} (h : AL P N ops Q s (⟨dst, .call ⟨.builtin b, xs, ts⟩, ty, pos, af, none⟩ :: rest) e m) : AL P N ops Q s (⟨dst, .call ⟨.builtin b, xs, ts⟩, ty, pos, af, none⟩ :: rest) e m := h
theorem kBin {op : BinOp} {T yT : TypeId} {x y : Operand} (h : AL P N ops Q s (⟨dst, .binOp op T x y yT, ty, pos, af, none⟩ :: rest) e m) : AL P N ops Q s (⟨dst, .binOp op T x y yT, ty, pos, af, none⟩ :: rest) e m := h
theorem kUn {op : UnOp} {T : TypeId} {x : Operand} (h : AL P N ops Q s (⟨dst, .unOp op T x, ty, pos, af, none⟩ :: rest) e m) : AL P N ops Q s (⟨dst, .unOp op T x, ty, pos, af, none⟩ :: rest) e m := h
theorem kConv {S D : TypeId} {x : Operand} (h : AL P N ops Q s (⟨dst, .convert S D x, ty, pos, af, none⟩ :: rest) e m) : AL P N ops Q s (⟨dst, .convert S D x, ty, pos, af, none⟩ :: rest) e m := h
theorem kPick {x y z : Operand} (h : AL P N ops Q s (⟨dst, .pick x y z, ty, pos, af, none⟩ :: rest) e m) : AL P N ops Q s (⟨dst, .pick x y z, ty, pos, af, none⟩ :: rest) e m := h
theorem kBuild {T : TypeId} {ps : Array (Nat × Operand)} (h : AL P N ops Q s (⟨dst, .build T ps, ty, pos, af, none⟩ :: rest) e m) : AL P N ops Q s (⟨dst, .build T ps, ty, pos, af, none⟩ :: rest) e m := h
end
/-- one step -/
theorem op1 {G G' : Prop} (h : G') (i : Wr G' → G := by
  intro h
  refine kL ?_
  first
  | (refine kMove ?_; exact al_move h.o)
  | (refine kLoad ?_; first | exact al_load h.o | exact al_loadD h.o)
  | (refine kStore ?_; exact al_store h.o)
  | (refine kFieldA ?_; first | exact al_fieldAddr h.o | exact al_fieldAddrD h.o)
  | (refine kCallF ?_; first | exact al_callE h.o | exact al_callM h.o | exact al_callMS h.o)
  | (refine kCallV ?_; exact al_callVE h.o)
  | (refine kCallB ?_; first | exact al_lenL h.o | exact al_lenS h.o | exact al_lenLit h.o | exact al_capL h.o | exact al_min h.o | exact al_max h.o)
  | (refine kBin ?_; first | exact al_cmp h.o | exact al_arith64 h.o | exact al_cmpS h.o | exact al_catL h.o | exact al_cat h.o | exact al_ptrN h.o | exact al_slNc h.o | exact al_shrC h.o | exact al_div h.o)
  | (refine kUn ?_; first | exact al_notD h.o | exact al_not h.o)
  | (refine kConv ?_; first | exact al_convK h.o | exact al_convI h.o | exact al_strD h.o | exact al_strA h.o | exact al_bytes h.o)
  | (refine kPick ?_; first | exact al_pickT h.o | exact al_pickF h.o)
  | (refine kBuild ?_; first | exact al_build h.o | exact al_buildA h.o)
  | (refine kG ?_; first | exact al_on h.o | exact al_off h.o | exact al_offN h.o | exact al_offT h.o | exact al_offTN h.o)
  | exact al_extract h.o | exact al_assign h.o | exact al_field h.o | exact al_nilCheck h.o | exact al_alloc h.o | exact al_box h.o | exact al_idxC h.o | exact al_makeFunc h.o | exact al_sliceA h.o) : G := i ⟨h⟩
/-- a literal's row: data -/
theorem opL {G G' : Prop} (h : G') (i : Wr G' → G := by intro h; exact al_buildL h.o) : G := i ⟨h⟩
section
variable {P : Program} {N : Nat} {Q : Exit → Act → World → Prop} {s : Base} {e : Env} {m T : List Piece} {c : Code} {x : Exit} {gl : List (Nat × AV)} {l os : List Oper} {i : Nat} {rs : List Rec}
theorem kA (h : AC P N c Q s e m) : AC P N c Q s e m := h
theorem kE (h : AE N x Q s e m) : AE N x Q s e m := h
theorem kO (h : Obl P N Q s gl l os i T e rs) : Obl P N Q s gl l os i T e rs := h
end
/-- one step of control -/
theorem ct1 {G G' : Prop} (h : G') (i : Wr G' → G := by
  intro h
  first
  | exact al_nil h.o
  | (refine kA ?_; first | exact ac_region h.o | exact ac_seq h.o | exact ac_skip h.o | exact ac_condT h.o | exact ac_condF h.o | exact ac_scope h.o | exact ac_block h.o | exact ac_exit h.o | exact ac_ret h.o | exact ac_label h.o)
  | (refine kE ?_; first | exact ae_thenC h.o | exact ae_noGoto h.o | exact ae_block h.o | exact ae_thenX h.o | exact ae_thenR h.o | exact ae_blockR h.o | exact ae_blockX h.o | exact ae_blockO h.o | exact ae_noGotoR h.o | exact ae_noGotoX h.o)) : G := i ⟨h⟩
/-- an operation of a region that draws: it touches nothing, or one piece -/
theorem ob1 {G G' : Prop} (h : G') (i : Wr G' → G := by
  intro h
  refine kO ?_
  first
  | exact obl_nil h.o
  | (apply obl_read []; exact rfl; exact rfl; kernel_rfl; (intro _ _; (first | refine op1 ?_ | refine opL ?_); first | exact al_nil (ae_got rfl rfl) | ((first | refine op1 ?_ | refine opL ?_); exact al_nil (ae_got rfl rfl))); exact h.o)
  | (apply obl_read [0]; exact rfl; exact rfl; kernel_rfl; (intro _ _; (first | refine al_load ?_ | refine al_callM ?_ | (refine al_on ?_; first | refine al_load ?_ | refine al_callM ?_)); exact al_nil (ae_got rfl rfl)); exact h.o)
  | (apply obl_read [1]; exact rfl; exact rfl; kernel_rfl; (intro _ _; (first | refine al_load ?_ | refine al_callM ?_ | (refine al_on ?_; first | refine al_load ?_ | refine al_callM ?_)); exact al_nil (ae_got rfl rfl)); exact h.o)
  | (apply obl_read [2]; exact rfl; exact rfl; kernel_rfl; (intro _ _; (first | refine al_load ?_ | refine al_callM ?_ | (refine al_on ?_; first | refine al_load ?_ | refine al_callM ?_)); exact al_nil (ae_got rfl rfl)); exact h.o)
  | (apply obl_read [3]; exact rfl; exact rfl; kernel_rfl; (intro _ _; (first | refine al_load ?_ | refine al_callM ?_ | (refine al_on ?_; first | refine al_load ?_ | refine al_callM ?_)); exact al_nil (ae_got rfl rfl)); exact h.o)
  | (apply obl_read [4]; exact rfl; exact rfl; kernel_rfl; (intro _ _; (first | refine al_load ?_ | refine al_callM ?_ | (refine al_on ?_; first | refine al_load ?_ | refine al_callM ?_)); exact al_nil (ae_got rfl rfl)); exact h.o)
  | (apply obl_read [5]; exact rfl; exact rfl; kernel_rfl; (intro _ _; (first | refine al_load ?_ | refine al_callM ?_ | (refine al_on ?_; first | refine al_load ?_ | refine al_callM ?_)); exact al_nil (ae_got rfl rfl)); exact h.o)
  | (apply obl_read [6]; exact rfl; exact rfl; kernel_rfl; (intro _ _; (first | refine al_load ?_ | refine al_callM ?_ | (refine al_on ?_; first | refine al_load ?_ | refine al_callM ?_)); exact al_nil (ae_got rfl rfl)); exact h.o)
  | (apply obl_read [7]; exact rfl; exact rfl; kernel_rfl; (intro _ _; (first | refine al_load ?_ | refine al_callM ?_ | (refine al_on ?_; first | refine al_load ?_ | refine al_callM ?_)); exact al_nil (ae_got rfl rfl)); exact h.o)
  | (apply obl_writeN [0]; exact rfl; exact rfl; kernel_rfl; (intro _ _; (first | refine al_store ?_ | refine al_callMS ?_ | (refine al_on ?_; first | refine al_store ?_ | refine al_callMS ?_)); exact al_nil (ae_gotN rfl)); exact rfl; exact rfl; exact h.o)
  | (apply obl_writeN [1]; exact rfl; exact rfl; kernel_rfl; (intro _ _; (first | refine al_store ?_ | refine al_callMS ?_ | (refine al_on ?_; first | refine al_store ?_ | refine al_callMS ?_)); exact al_nil (ae_gotN rfl)); exact rfl; exact rfl; exact h.o)
  | (apply obl_writeN [2]; exact rfl; exact rfl; kernel_rfl; (intro _ _; (first | refine al_store ?_ | refine al_callMS ?_ | (refine al_on ?_; first | refine al_store ?_ | refine al_callMS ?_)); exact al_nil (ae_gotN rfl)); exact rfl; exact rfl; exact h.o)
  | (apply obl_writeN [3]; exact rfl; exact rfl; kernel_rfl; (intro _ _; (first | refine al_store ?_ | refine al_callMS ?_ | (refine al_on ?_; first | refine al_store ?_ | refine al_callMS ?_)); exact al_nil (ae_gotN rfl)); exact rfl; exact rfl; exact h.o)
  | (apply obl_writeN [4]; exact rfl; exact rfl; kernel_rfl; (intro _ _; (first | refine al_store ?_ | refine al_callMS ?_ | (refine al_on ?_; first | refine al_store ?_ | refine al_callMS ?_)); exact al_nil (ae_gotN rfl)); exact rfl; exact rfl; exact h.o)
  | (apply obl_writeN [5]; exact rfl; exact rfl; kernel_rfl; (intro _ _; (first | refine al_store ?_ | refine al_callMS ?_ | (refine al_on ?_; first | refine al_store ?_ | refine al_callMS ?_)); exact al_nil (ae_gotN rfl)); exact rfl; exact rfl; exact h.o)
  | (apply obl_writeN [6]; exact rfl; exact rfl; kernel_rfl; (intro _ _; (first | refine al_store ?_ | refine al_callMS ?_ | (refine al_on ?_; first | refine al_store ?_ | refine al_callMS ?_)); exact al_nil (ae_gotN rfl)); exact rfl; exact rfl; exact h.o)
  | (apply obl_writeN [7]; exact rfl; exact rfl; kernel_rfl; (intro _ _; (first | refine al_store ?_ | refine al_callMS ?_ | (refine al_on ?_; first | refine al_store ?_ | refine al_callMS ?_)); exact al_nil (ae_gotN rfl)); exact rfl; exact rfl; exact h.o)
  | (apply obl_write [0]; exact rfl; exact rfl; kernel_rfl; (intro _ _; refine al_callM ?_; exact al_nil (ae_got rfl rfl)); exact rfl; exact rfl; exact h.o)
  | (apply obl_write [1]; exact rfl; exact rfl; kernel_rfl; (intro _ _; refine al_callM ?_; exact al_nil (ae_got rfl rfl)); exact rfl; exact rfl; exact h.o)
  | (apply obl_write [2]; exact rfl; exact rfl; kernel_rfl; (intro _ _; refine al_callM ?_; exact al_nil (ae_got rfl rfl)); exact rfl; exact rfl; exact h.o)
  | (apply obl_write [3]; exact rfl; exact rfl; kernel_rfl; (intro _ _; refine al_callM ?_; exact al_nil (ae_got rfl rfl)); exact rfl; exact rfl; exact h.o)
  | (apply obl_write [4]; exact rfl; exact rfl; kernel_rfl; (intro _ _; refine al_callM ?_; exact al_nil (ae_got rfl rfl)); exact rfl; exact rfl; exact h.o)
  | (apply obl_write [5]; exact rfl; exact rfl; kernel_rfl; (intro _ _; refine al_callM ?_; exact al_nil (ae_got rfl rfl)); exact rfl; exact rfl; exact h.o)
  | (apply obl_write [6]; exact rfl; exact rfl; kernel_rfl; (intro _ _; refine al_callM ?_; exact al_nil (ae_got rfl rfl)); exact rfl; exact rfl; exact h.o)
  | (apply obl_write [7]; exact rfl; exact rfl; kernel_rfl; (intro _ _; refine al_callM ?_; exact al_nil (ae_got rfl rfl)); exact rfl; exact rfl; exact h.o)) : G := i ⟨h⟩
/-- .. that makes a variable -/
theorem ob2 {G : Prop} {G' : Nat → Prop} (h : ∀ g, G' g) (i : (∀ g, Wr (G' g)) → G := by
  intro h
  apply obl_fresh []
  exact rfl
  exact rfl
  kernel_rfl
  kernel_rfl
  intro _ _
  first | refine al_alloc (fun g => ?_) | refine al_box (fun g => ?_)
  refine al_nil (ae_fresh [] [.var g _ _] rfl rfl (List.Perm.refl _) rfl ?_)
  exact (h g).o) : G := i fun g => ⟨h g⟩
/-- a region that draws -/
theorem dr1 {P : Program} [Mixed P] {N : Nat} {Q : Exit → Act → World → Prop} {e : Env} {s : Base} {m : List Piece} {gl : List (Nat × AV)} {l : List Oper} {id : Nat} (hg : s.gl = gl) (ho : Obl P N Q s gl l l 0 m e []) (hc : chkR N l = true := by kernel_rfl) : AC P N (.region id l.toArray true) Q s e m := ac_draw' hg hc ho
/-- a step of whatever kind -/
theorem W {G G' : Prop} (h : G') (i : Wr G' → G := by intro h; first | exact ct1 h.o | exact op1 h.o | exact opL h.o | exact ob1 h.o | exact dr1 (by assumption) h.o) : G := i ⟨h⟩
section
variable {P : Program} {N : Nat} {ops : Array Oper} {Q : Exit → Act → World → Prop} {rest : List Oper} {s : Base} {e : Env} {m : List Piece} {d : Nat} {ty : TypeId} {pos : String} {af : Array Edge}
/-- a guard that is not known yet -/
theorem gu1 {op : Op} {dst : Option Nat} {g t : Nat} {b : Bool} {p : Prop} [Decidable p] (h1 : p → AL P N ops Q s (⟨dst, op, ty, pos, af, some (g, b)⟩ :: rest) ((t, .lit (.bool true)) :: e) m)
    (h2 : ¬ p → AL P N ops Q s (⟨dst, op, ty, pos, af, some (g, b)⟩ :: rest) ((t, .lit (.bool false)) :: e) m) (_ht : (ops[g]?).bind (·.dst) = some t := by exact rfl) (hc : lk e t = some (.lit (.bool (decide p))) := by exact rfl) : AL P N ops Q s (⟨dst, op, ty, pos, af, some (g, b)⟩ :: rest) e m := al_guard t h1 h2 hc
theorem gu2 {op : Op} {dst : Option Nat} {g t : Nat} {b c : Bool} (h1 : c = true → AL P N ops Q s (⟨dst, op, ty, pos, af, some (g, b)⟩ :: rest) ((t, .lit (.bool true)) :: e) m)
    (h2 : c = false → AL P N ops Q s (⟨dst, op, ty, pos, af, some (g, b)⟩ :: rest) ((t, .lit (.bool false)) :: e) m) (_ht : (ops[g]?).bind (·.dst) = some t := by exact rfl) (hc : lk e t = some (.lit (.bool c)) := by exact rfl) : AL P N ops Q s (⟨dst, op, ty, pos, af, some (g, b)⟩ :: rest) e m := al_guardB t h1 h2 hc
/-- the end of a function that only answers -/
theorem reE {fn : Func} {out : AV} {rs : List ResultVar} {vs : List AV} (h : outOf vs = out) (hr : fn.results = rs.toArray := by exact rfl) (hh : Ress P N s e m rs vs := by
    repeat (first | exact Av.ress_nil | (apply Av.ress_cons; (first | (apply Av.res_tmp; exact rfl; exact rfl) | (apply Av.res_cell; exact rfl; (repeat (first | exact Av.Has.here | apply Av.Has.there)); exact rfl))))) : AE N .ret (bodyPost P fn (Back s fun v m' => v = out ∧ m' = [])) s e m :=
  ae_ret hr hh (.inl rfl) ⟨h, rfl⟩ (List.nil_sublist _)
/-- of any -/
theorem reK {fn : Func} {K : AV → List Piece → Prop} {rs : List ResultVar} {vs : List AV} (m' : List Piece) (h : K (outOf vs) m') (hm : m'.Sublist m) (hr : fn.results = rs.toArray := by exact rfl) (hh : Ress P N s e m rs vs := by
    repeat (first | exact Av.ress_nil | (apply Av.ress_cons; (first | (apply Av.res_tmp; exact rfl; exact rfl) | (apply Av.res_cell; exact rfl; (repeat (first | exact Av.Has.here | apply Av.Has.there)); exact rfl))))) : AE N .ret (bodyPost P fn (Back s K)) s e m :=
  ae_ret hr hh (.inl rfl) h hm
/-- .. that falls off its end -/
theorem reN {fn : Func} {K : AV → List Piece → Prop} (m' : List Piece) (h : K (.tup []) m') (hm : m'.Sublist m) (hr : fn.results = ([] : List ResultVar).toArray := by exact rfl) : AE N .normal (bodyPost P fn (Back s K)) s e m :=
  ae_ret (vs := []) hr ress_nil (.inr rfl) h hm
theorem reR {fn : Func} {K : AV → List Piece → Prop} (m' : List Piece) (h : K (.tup []) m') (hm : m'.Sublist m) (hr : fn.results = ([] : List ResultVar).toArray := by exact rfl) : AE N .ret (bodyPost P fn (Back s K)) s e m :=
  ae_ret (vs := []) hr ress_nil (.inl rfl) h hm
end
end Av

namespace Av
open Go Go.RowKit Tw
theorem opW {G G' : Prop} (h : G') (i : Wr G' → G := by
  intro h
  first
  | exact al_bit32 h.o | exact al_add32 h.o | exact al_not32 h.o | exact al_conv32 h.o | exact al_shl32 24 h.o | exact al_shl32 16 h.o | exact al_shl32 8 h.o | exact al_shr32 3 h.o | exact al_shr32 10 h.o) : G := i ⟨h⟩
theorem obW {G G' : Prop} (h : G') (i : Wr G' → G := by
  intro h
  (apply obl_read []; exact rfl; exact rfl; kernel_rfl; (intro _ _; refine opW ?_; exact al_nil (ae_got rfl rfl)); exact h.o)) : G := i ⟨h⟩
section
variable {P : Program} {N : Nat} {ops : Array Oper} {Q : Exit → Act → World → Prop} {rest : List Oper} {s : Base} {e : Env} {m : List Piece} {d : Nat} {ty : TypeId} {pos : String} {af : Array Edge}
/-- a part of a variable that is a list's -/
theorem al_loadM {T : TypeId} {a : Bool} {k : Nat} [t : Ty P T a k] {x : Operand} {g n : Nat} {T0 : TypeId} {α : Type} {f : α → AV} {l : List α} (j : Nat) (hj : j < l.length) (h : AL P N ops Q s rest ((d, f l[j]) :: e) m) (hx : ev e x = some (.lit (.pointer (some ⟨g, 0 + j * k, none⟩))) := by exact rfl)
    (hm : Has m (.var g T0 (.agg n (l.map f))) := by (repeat (first | exact Av.Has.here | apply Av.Has.there))) (hk : Siz (l.map f) k := by infer_instance) (ha : (f l[j]).isAgg = a := by exact rfl) (hd : Nat.blt d N = true := by exact rfl) : AL P N ops Q s (⟨some d, .load T x, ty, pos, af, none⟩ :: rest) e m :=
  al_loadE (j := j) (ps := l.map f) (u := f l[j]) (by simp [hj]) h hx hm hk ha hd
end
end Av

namespace Tw
open Go Go.RowKit

/-- 32 bytes -/
structure Hsh where
  l : Bs
  len : l.length = 32
theorem Hsh.ext' {a b : Hsh} (h : a.l = b.l) : a = b := by cases a; cases b; simp_all
instance : DecidableEq Hsh := fun a b => if h : a.l = b.l then isTrue (Hsh.ext' h) else isFalse fun e => h (by rw [e])
def hcs (h : Hsh) : List Value := (List.range 32).map fun i => u8v (h.l.getD i 0)
/-- a hash as a value -/
def hv (h : Hsh) : Value := .agg (hcs h).toArray
def zeroH : Hsh := ⟨zeros 32, by simp [zeros]⟩
theorem hcs_eq (h : Hsh) : hcs h = h.l.map u8v := by
  apply List.ext_getElem
  · simp [hcs, h.len]
  · intro i h1 h2
    have : i < h.l.length := by simpa using h2
    simp [hcs, this]
theorem hv_cells (h : Hsh) : (hv h).cells.toList = fl [hv h] := by simp
theorem hv_good (h : Hsh) : Good [hv h] := by
  intro v hv'
  simp [hv, hcs, Value.cells] at hv'
  obtain ⟨i, _, rfl⟩ := hv'
  rfl
theorem u8v_inj {a b : UInt8} (h : u8v a = u8v b) : a = b := by
  injection h with _ h
  have : a.toNat = b.toNat := by omega
  exact UInt8.toNat_inj.1 this
theorem hv_inj {a b : Hsh} (h : hv a = hv b) : a = b := by
  apply Hsh.ext'
  injection h with h
  have h2 : hcs a = hcs b := by simpa using congrArg Array.toList h
  rw [hcs_eq, hcs_eq] at h2
  exact List.map_inj_right (fun x y h => u8v_inj h) |>.1 h2

/-- SHA-256 -/
def shaH (s : Bs) : Hsh := ⟨sha s, sha_len s⟩
theorem hv_fl (h : Hsh) : fl [hv h] = h.l.map u8v := by rw [← hv_cells]; simp [hv, Value.cells, hcs_eq]

/-- entries -/
structure Ent where
  key : Bs
  val : Bs
deriving DecidableEq
def entV (x : Ent) : Value := st [sv x.key, sv x.val]
end Tw

namespace Av
open Go Go.RowKit Tw
abbrev u8A (c : UInt8) : AV := .lit (u8v c)
abbrev nils : AV := .lit (.slice none 0 0)
def hA (h : Hsh) : AV := .agg 32 (h.l.map u8A)
theorem RCs_u8 {ok : Ok} {w : World} : ∀ l : Bs, RCs ok w (l.map u8A) (l.map u8v)
  | [] => by rw [List.map_nil, RCs]; rfl
  | c :: l => by
    rw [List.map_cons, RCs]
    exact ⟨[u8v c], l.map u8v, rfl, by rw [RC]; exact ⟨rfl, rfl⟩, RCs_u8 l⟩
theorem RV_hA {ok : Ok} {w : World} (h : Hsh) : RV ok w (hA h) (hv h) := by
  refine ⟨?_, rfl⟩
  show RC ok w (.agg 32 (h.l.map u8A)) (hcs h).toArray.toList
  rw [RC, hcs_eq]
  exact ⟨by simp [h.len], RCs_u8 h.l⟩
theorem RCs_u8_eq {ok : Ok} {w : World} : ∀ {l : Bs} {cs : List Value}, RCs ok w (l.map u8A) cs → cs = l.map u8v
  | [], cs, h => by rw [List.map_nil, RCs] at h; exact h
  | c :: l, cs, h => by
    rw [List.map_cons, RCs] at h
    obtain ⟨c1, c2, rfl, h1, h2⟩ := h
    rw [RC] at h1
    rw [h1.1, RCs_u8_eq h2]
    rfl
theorem hA_RV {ok : Ok} {w : World} {h : Hsh} {v : Value} (hr : RV ok w (hA h) v) : v = hv h := by
  obtain ⟨h1, h2⟩ := (show RV0 ok w (.agg 32 (h.l.map u8A)) v from hr)
  rw [agg_of h2.symm]
  rw [RC] at h1
  have := RCs_u8_eq h1.2
  unfold hv
  rw [hcs_eq, ← this]
/-- entries -/
abbrev entA (x : Ent) : AV := .agg 2 [str x.key, str x.val]
/-- texts, in a list of values -/
class Strs (xs : List AV) (l : outParam (List Bs)) : Prop where
  out : xs = l.map str
instance : Strs [] [] := ⟨rfl⟩
instance {a : Bs} {xs : List AV} {l : List Bs} [h : Strs xs l] : Strs (str a :: xs) (a :: l) := ⟨by rw [h.out]; rfl⟩
instance {l : List Bs} : Strs (l.map str) l := ⟨rfl⟩
/-- entries, in a list of values -/
class Ents (xs : List AV) (l : outParam (List Ent)) : Prop where
  out : xs = l.map entA
instance : Ents [] [] := ⟨rfl⟩
instance {a b : Bs} {xs : List AV} {l : List Ent} [h : Ents xs l] : Ents (.agg 2 [str a, str b] :: xs) (⟨a, b⟩ :: l) := ⟨by rw [h.out]; rfl⟩
instance {l : List Ent} : Ents (l.map entA) l := ⟨rfl⟩
/-- hashes, in a list of values -/
class Hshs (xs : List AV) (l : outParam (List Hsh)) : Prop where
  out : xs = l.map hA
instance : Hshs [] [] := ⟨rfl⟩
instance {a : Hsh} {xs : List AV} {l : List Hsh} [h : Hshs xs l] : Hshs (hA a :: xs) (a :: l) := ⟨by rw [h.out]; rfl⟩
instance {l : List Hsh} : Hshs (l.map hA) l := ⟨rfl⟩
instance {xs : List AV} {l : List Hsh} {i : Nat} [h : Hshs xs l] : Hshs (xs.take i) (l.take i) := ⟨by rw [h.out, List.map_take]⟩
instance {xs : List AV} {l : List Hsh} {i : Nat} [h : Hshs xs l] : Hshs (xs.drop i) (l.drop i) := ⟨by rw [h.out, List.map_drop]⟩
instance {xs ys : List AV} {l k : List Hsh} [h : Hshs xs l] [g : Hshs ys k] : Hshs (xs ++ ys) (l ++ k) := ⟨by rw [h.out, g.out, List.map_append]⟩
instance {xs : List AV} {l : List Ent} {i : Nat} [h : Ents xs l] : Ents (xs.take i) (l.take i) := ⟨by rw [h.out, List.map_take]⟩
instance {xs : List AV} {l : List Ent} {i : Nat} [h : Ents xs l] : Ents (xs.drop i) (l.drop i) := ⟨by rw [h.out, List.map_drop]⟩
instance {xs ys : List AV} {l k : List Ent} [h : Ents xs l] [g : Ents ys k] : Ents (xs ++ ys) (l ++ k) := ⟨by rw [h.out, g.out, List.map_append]⟩
/-- an own function's contract, told over values, for values by what they hold -/
theorem spec_of {P : Program} {gl : List (Nat × AV)} {f : FuncId} {args : List AV} {out : AV} (h : ∀ ok w cargs, (∀ b j, w.heap.size ≤ b → ok b j) → Glob gl ok w → RVs ok w args cargs → Ret P f cargs w fun v w' => (∃ ok', RV ok' w' out v ∧ Stp ok w ok' w' ∧ (∀ b j, b < w.heap.size → ok' b j → ok b j) ∧ ∀ b j, w'.heap.size ≤ b → ok' b j) ∧ Ext w w') : SpecE P gl f args out := Spec.mk fun ok w cargs hS hv => by
  have h1 := h ok w cargs hS.fresh hS.gl hv
  unfold Ret at h1
  refine Calls.mono h1 fun x w' hx => ?_
  obtain ⟨v, rfl, ⟨ok', g1, g2, g3, g4⟩, g5⟩ := hx
  refine ⟨out, [], ok', v, ⟨rfl, rfl⟩, rfl, g1, ?_⟩
  exact ⟨g5.os, g5.tape, g5.output, g2, fun b hb _ => g5.block b hb, fun b j hb _ ho => g3 b j hb ho, g4, by simp, by simp, by simp, by simp, hS.gl.stp g2⟩
/-- .. that answers one cell or a row of such -/
theorem spec_flat {P : Program} {gl : List (Nat × AV)} {f : FuncId} {args : List AV} {out : AV} (h : ∀ ok w cargs, Glob gl ok w → RVs ok w args cargs → Ret P f cargs w fun v w' => (∀ ok w, RV ok w out v) ∧ Ext w w') : SpecE P gl f args out :=
  spec_of fun ok w cargs hf hg hv => by
    refine (h ok w cargs hg hv).mono fun v w' hh => ⟨⟨ok, hh.1 _ _, Ext.astp hh.2 ok, fun _ _ _ h => h, fun b j hb => hf b j (Nat.le_trans hh.2.size hb)⟩, hh.2⟩
/-- one's own row, or nil -/
def OwnK (E k : Nat) (xs : List AV) (v : AV) (m : List Piece) : Prop := (xs = [] ∧ v = nils ∧ m = []) ∨ ∃ g c, v = .lit (.slice (some ⟨g, 0, none⟩) xs.length c) ∧ m = [.buf g E k xs c] ∧ xs.length ≤ c
end Av

namespace Av
open Go Go.RowKit Tw
instance : DecidableEq Hsh := fun a b => if h : a.l = b.l then isTrue (Hsh.ext' h) else isFalse fun e => h (by rw [e])
instance : DecidableEq Ent := fun a b => if h : a.key = b.key ∧ a.val = b.val then isTrue (by cases a; cases b; simp_all) else isFalse fun e => h (by rw [e]; exact ⟨rfl, rfl⟩)
class Shp (a : AV) (n : outParam Nat) (g : outParam Bool) : Prop where
  sz : a.size = n
  ag : a.isAgg = g
instance {v : Value} : Shp (.lit v) 1 false := ⟨rfl, rfl⟩
instance {n : Nat} {ps : List AV} : Shp (.agg n ps) n true := ⟨rfl, rfl⟩
instance {h : Hsh} : Shp (hA h) 32 true := ⟨rfl, rfl⟩
class TyB (P : Program) (T : TypeId) : Prop where
  out : P.underlying T = some .bool
def fieldsQ (P : Program) (T : TypeId) : Option (List (TypeId × Nat × Nat)) := match P.underlying T with
  | some (.struct fs) => bif fs.toList.all (fun f => f.name != "_") && !P.stoodInHeld T then some (fs.toList.map fun f => (f.type, f.offset, P.cellsOf f.type)) else none
  | _ => none
def chainQ : Nat → List (TypeId × Nat × Nat) → Bool
  | _, [] => true
  | o, (_, off, k) :: l => Nat.beq off o && chainQ (o + k) l
class TyQ (P : Program) (T : TypeId) (l : outParam (List (TypeId × Nat × Nat))) : Prop where
  out : fieldsQ P T = some l
  chain : chainQ 0 l = true
/-- '==' at type T on two values tells c -/
class Eqv (P : Program) (T : TypeId) (a b : AV) (k : outParam Nat) (c : outParam Bool) : Prop where
  run : ∀ {ok : Ok} {w : World} {va vb : Value} (d : Nat), k ≤ d → RV0 ok w a va → RV0 ok w b vb → (Op.equalIn (d + 1) T va vb).run P w = .ok c w
theorem beq_dec {α : Type} [DecidableEq α] (a b : α) : (a == b) = decide (a = b) := rfl
instance {P : Program} {T : TypeId} [t : TyB P T] {a b : Bool} : Eqv P T (boo a) (boo b) 0 (decide (a = b)) := ⟨fun d _ ha hb => by
  rw [RV0.lit ha, RV0.lit hb, run_equalIn_bool _ d T a b t.out]
  rfl⟩
instance {P : Program} {T : TypeId} {k : IntKind} [t : TyI P T k] {a b : Int} : Eqv P T (.lit (.int k a)) (.lit (.int k b)) 0 (decide (a = b)) := ⟨fun d _ ha hb => by
  rw [RV0.lit ha, RV0.lit hb, run_equalIn_int _ d T k k a b t.out]
  rfl⟩
theorem sv_eqB (a b : Bs) : ((⟨a.toArray⟩ : ByteArray).toList == (⟨b.toArray⟩ : ByteArray).toList) = decide (a = b) := by
  rw [ByteArray.toList_eq, ByteArray.toList_eq]
  show (a == b) = decide (a = b)
  by_cases h : a = b <;> simp [h]
instance {P : Program} {T : TypeId} [t : TyT P T] {a b : Bs} : Eqv P T (str a) (str b) 0 (decide (a = b)) := ⟨fun d _ ha hb => by
  rw [RV0.lit ha, RV0.lit hb]
  show (Op.equalIn (d + 1) T (.string ⟨a.toArray⟩) (.string ⟨b.toArray⟩)).run P _ = _
  rw [run_equalIn_string _ d T _ _ t.out, sv_eqB]⟩
theorem eqItems_u8 {P : Program} {e : TypeId} (he : P.underlying e = some (.int .u8)) (w : World) (d : Nat) : ∀ (n o : Nat) (la lb : Bs), la.length = o + n → lb.length = o + n →
    (Op.eqItems (d + 1) e 1 (la.map u8v).toArray (lb.map u8v).toArray (List.range' o n)).run P w = .ok (decide (la.drop o = lb.drop o)) w
  | 0, o, la, lb, h1, h2 => by
    rw [List.drop_of_length_le (l := la) (by omega), List.drop_of_length_le (l := lb) (by omega)]
    simp [Op.eqItems]
  | n + 1, o, la, lb, h1, h2 => by
    have hp : P.plainKey e = true := by simp [Program.plainKey, he]
    have hla : o < la.length := by omega
    have hlb : o < lb.length := by omega
    have ea : (la.map u8v).toArray[o * 1]? = some (u8v la[o]) := by simp [hla]
    have eb : (lb.map u8v).toArray[o * 1]? = some (u8v lb[o]) := by simp [hlb]
    have hq : (Op.equalIn (d + 1) e (u8v la[o]) (u8v lb[o])).run P w = .ok (decide (la[o] = lb[o])) w := by
      unfold u8v
      rw [run_equalIn_int _ d e _ _ _ _ he]
      congr 1
      rw [beq_dec, decide_eq_decide]
      constructor
      · intro h
        exact UInt8.toNat_inj.1 (by omega)
      · intro h
        rw [h]
    rw [List.range'_succ]
    simp only [Op.eqItems, Sem.run_bind, run_part_plain w hp ea, run_part_plain w hp eb, Result.andThen_ok, hq]
    rw [List.drop_eq_getElem_cons hla, List.drop_eq_getElem_cons hlb]
    by_cases h : la[o] = lb[o]
    · simp only [h, decide_true, Bool.not_true, Bool.false_eq_true, if_false, eqItems_u8 he w d n (o + 1) la lb (by omega) (by omega), List.cons.injEq, true_and]
    · have hf : decide (la[o] :: la.drop (o + 1) = lb[o] :: lb.drop (o + 1)) = false := by
        rw [decide_eq_false_iff_not, List.cons.injEq]
        exact fun e => h e.1
      rw [hf]
      simp [h]
theorem info_of_sz {P : Program} {T : TypeId} {k : Nat} (h : (P.info? T).map (·.size) = some k) : ∃ i, P.info? T = some i ∧ P.cellsOf T = k := by
  cases hi : P.info? T with
  | none => simp [hi] at h
  | some i => exact ⟨i, rfl, by simpa [Program.cellsOf, hi] using h⟩
theorem hA_val {ok : Ok} {w : World} {h : Hsh} {v : Value} (hr : RV0 ok w (hA h) v) : v = .agg (h.l.map u8v).toArray := by
  have := hA_RV (RV.of0 hr)
  rw [this]
  unfold hv
  rw [hcs_eq]
instance {P : Program} {T e : TypeId} [t : TyA P T 32 e 1] [te : TyI P e .u8] {a b : Hsh} : Eqv P T (hA a) (hA b) 1 (decide (a = b)) := ⟨fun {ok w va vb} d hd ha hb => by
  rw [hA_val ha, hA_val hb]
  obtain ⟨i, hi, hc⟩ := info_of_sz t.sz
  obtain ⟨d, rfl⟩ : ∃ d', d = d' + 1 := ⟨d - 1, by omega⟩
  rw [run_equalIn_array w (d + 1) _ _ t.out hi, hc, List.range_eq_range', eqItems_u8 te.out w d 32 0 a.l b.l (by rw [a.len]) (by rw [b.len])]
  congr 1
  rw [decide_eq_decide, List.drop_zero, List.drop_zero]
  exact ⟨Hsh.ext', fun h => by rw [h]⟩⟩
class EqvS (P : Program) (l : List (TypeId × Nat × Nat)) (as bs : List AV) (k : outParam Nat) (c : outParam Bool) : Prop where
  run : ∀ {ok : Ok} {w : World} (d : Nat), k ≤ d → ∀ {o : Nat} {x y ca cb : List Value}, x.length = o → y.length = o → chainQ o l = true → RCs ok w as ca → RCs ok w bs cb →
    ∀ fs : List Field, fs.map (fun f => (f.type, f.offset, P.cellsOf f.type)) = l → (∀ f ∈ fs, (f.name != "_") = true) → (Op.eqFields (d + 1) (x ++ ca).toArray (y ++ cb).toArray fs).run P w = .ok c w
instance {P : Program} : EqvS P [] [] [] 0 true := ⟨fun {ok w} d _ {o x y ca cb} _ _ _ _ _ fs hf _ => by
  obtain rfl : fs = [] := by simpa using hf
  simp [Op.eqFields]⟩
instance {P : Program} {T : TypeId} {off s : Nat} {g : Bool} {a b : AV} {l : List (TypeId × Nat × Nat)} {as bs : List AV} {k k2 : Nat} {c c2 : Bool} [t : Ty P T g s] [sa : Shp a s g] [sb : Shp b s g] [h : Eqv P T a b k c] [h2 : EqvS P l as bs k2 c2] : EqvS P ((T, off, s) :: l) (a :: as) (b :: bs) (k + k2) (c && c2) := ⟨fun {ok w} d hd {o x y ca cb} hx hy hch ha hb fs hf hn => by
  obtain ⟨f, fs, rfl⟩ : ∃ f fs', fs = f :: fs' := by
    cases fs with
    | nil => simp at hf
    | cons f fs => exact ⟨f, fs, rfl⟩
  simp only [List.map_cons, List.cons.injEq, Prod.mk.injEq] at hf
  obtain ⟨⟨e1, e2, e3⟩, hf⟩ := hf
  simp only [chainQ, Bool.and_eq_true] at hch
  obtain ⟨h3, h4⟩ := hch
  have h3 := Nat.eq_of_beq_eq_true h3
  subst h3
  rw [RCs] at ha hb
  obtain ⟨a1, a2, rfl, ga1, ga2⟩ := ha
  obtain ⟨b1, b2, rfl, gb1, gb2⟩ := hb
  have la : a1.length = s := by rw [ga1.len, sa.sz]
  have lb : b1.length = s := by rw [gb1.len, sb.sz]
  have hname := hn f (by simp)
  have hpa := Av.run_part (P := P) t (x := x) (c := a1) (y := a2) ga1 la sa.ag
  have hpb := Av.run_part (P := P) t (x := y) (c := b1) (y := b2) gb1 lb sb.ag
  rw [hx] at hpa
  rw [hy] at hpb
  have hq := h.run (d := d) (by omega) (RV0.mk ga1) (RV0.mk gb1)
  rw [sa.ag, sb.ag] at hq
  have hrest := h2.run (d := d) (by omega) (o := off + s) (x := x ++ a1) (y := y ++ b1) (by simp [hx, la]) (by simp [hy, lb]) h4 ga2 gb2 fs hf (fun q hq => hn q (by simp [hq]))
  have hne : f.name ≠ "_" := by simpa using hname
  subst e1 e2
  rw [← List.append_assoc, ← List.append_assoc]
  simp only [Op.eqFields, hne, ne_eq, not_false_eq_true, if_true, Sem.run_bind, hpa, hpb, Result.andThen_ok, hq]
  cases c
  · simp
  · simpa using hrest⟩
instance {P : Program} {T : TypeId} {l : List (TypeId × Nat × Nat)} {n : Nat} {as bs : List AV} {k : Nat} {c : Bool} [t : TyQ P T l] [h : EqvS P l as bs k c] : Eqv P T (.agg n as) (.agg n bs) (k + 1) c := ⟨fun {ok w va vb} d hd ha hb => by
  obtain ⟨d, rfl⟩ : ∃ d', d = d' + 1 := ⟨d - 1, by omega⟩
  have hq := t.out
  unfold fieldsQ at hq
  split at hq
  · rename_i fs hu
    cases hb1 : (fs.toList.all (fun f => f.name != "_") && !P.stoodInHeld T) with
    | false => rw [hb1] at hq; cases hq
    | true =>
      rw [hb1, cond_true] at hq
      injection hq with hq
      simp only [Bool.and_eq_true, Bool.not_eq_true'] at hb1
      obtain ⟨cs1, rfl, g1⟩ := agg_run (RV.of0 ha)
      obtain ⟨cs2, rfl, g2⟩ := agg_run (RV.of0 hb)
      rw [RC] at g1 g2
      have hfo : P.fieldsOf T = fs := by simp [Program.fieldsOf, hu]
      rw [run_equalIn_struct w (d + 1) T _ _ (by rw [hfo]; exact hu) hb1.2, hfo]
      have := h.run (d := d) (by omega) (o := 0) (x := []) (y := []) rfl rfl t.chain g1.2 g2.2 fs.toList hq (fun f hf => List.all_eq_true.1 hb1.1 f hf)
      simpa using this
  · cases hq⟩
/-- what the look at nil parts asks -/
class NoG (P : Program) (T : TypeId) : Prop where
  out : P.eqGuardType P.depth T = false
section
variable {P : Program} {N : Nat} {ops : Array Oper} {Q : Exit → Act → World → Prop} {rest : List Oper} {s : Base} {e : Env} {m : List Piece} {d : Nat} {ty : TypeId} {pos : String} {af : Array Edge}
/-- '==' and '!=' on structs and arrays -/
theorem al_eqA {op : BinOp} {T yT : TypeId} {x y : Operand} {a b : AV} {k : Nat} {c r : Bool} (h : AL P N ops Q s rest ((d, boo r) :: e) m) (hx : ev e x = some a := by exact rfl) (hy : ev e y = some b := by exact rfl) (hE : Eqv P T a b k c := by infer_instance) (hG : NoG P T := by infer_instance) (hk : Nat.ble k 9999 = true := by exact rfl)
    (ha : a.isAgg = true := by exact rfl) (hb : b.isAgg = true := by exact rfl) (hc : eqs op c = some r := by exact rfl) (hd : Nat.blt d N = true := by exact rfl) : AL P N ops Q s (⟨some d, .binOp op T x y yT, ty, pos, af, none⟩ :: rest) e m :=
  al_val (fun ok w A _ hA => by
    have g1 := (hA.eval hx).to0 (by rintro vs rfl; simp [AV.isAgg] at ha)
    have g2 := (hA.eval hy).to0 (by rintro vs rfl; simp [AV.isAgg] at hb)
    have v1 : A.eval x = .agg (A.eval x).cells := agg_of (by rw [← g1.2, ha])
    have v2 : A.eval y = .agg (A.eval y).cells := agg_of (by rw [← g2.2, hb])
    have hk := Nat.le_of_ble_eq_true hk
    have hr := hE.run 9999 hk g1 g2
    refine ⟨.bool r, ?_, RVl rfl⟩
    have hgd : (eqGuard op T x y (A.eval x) (A.eval y)).run P w = .ok () w := by
      rw [v1, v2]
      unfold eqGuard
      cases op <;> simp [hG.out]
    exact run_eqs rfl rfl (by rw [v1]; simp) (by rw [v1]; simp) (by rw [v1]; simp) (by rw [v1]; simp) hgd (by unfold Op.equal; exact hr) hc) hd h
end
end Av

namespace Av
open Go Go.RowKit Tw
section
variable {P : Program} {N : Nat} {ops : Array Oper} {Q : Exit → Act → World → Prop} {rest : List Oper} {s : Base} {e : Env} {m : List Piece} {d : Nat} {ty : TypeId} {pos : String} {af : Array Edge}
theorem al_eqBo {op : BinOp} {T yT : TypeId} [t : TyB P T] {x y : Operand} {a b r : Bool} (h : AL P N ops Q s rest ((d, boo r) :: e) m) (hx : ev e x = some (boo a) := by exact rfl) (hy : ev e y = some (boo b) := by exact rfl) (hc : eqs op (decide (a = b)) = some r := by exact rfl) (hd : Nat.blt d N = true := by exact rfl) :
    AL P N ops Q s (⟨some d, .binOp op T x y yT, ty, pos, af, none⟩ :: rest) e m :=
  al_lit rfl (fun ok w A hA => by
    have hgd : (eqGuard op T x y (.bool a) (.bool b)).run P w = .ok () w := by
      unfold eqGuard
      cases op <;> simp
    have hr : (Op.equal T (.bool a) (.bool b)).run P w = .ok (decide (a = b)) w := by
      unfold Op.equal
      exact run_equalIn_bool w 9999 T a b t.out
    exact run_eqs (hA.lit hx) (hA.lit hy) (by simp) (by simp) (by simp) (by simp) hgd hr hc) hd h
/-- one and the same -/
theorem al_eqR {op : BinOp} {T yT : TypeId} {x y : Operand} {a : AV} {k : Nat} {c r : Bool} (h : AL P N ops Q s rest ((d, boo r) :: e) m) (hx : ev e x = some a := by exact rfl) (hy : ev e y = some a := by exact rfl) (hE : Eqv P T a a k c := by infer_instance) (hG : NoG P T := by infer_instance) (hk : Nat.ble k 9999 = true := by exact rfl)
    (ha : a.isAgg = true := by exact rfl) (ht : c = true := by simp) (hc : eqs op true = some r := by exact rfl) (hd : Nat.blt d N = true := by exact rfl) : AL P N ops Q s (⟨some d, .binOp op T x y yT, ty, pos, af, none⟩ :: rest) e m := by
  subst ht
  exact al_eqA h hx hy hE hG hk ha ha hc hd
end
theorem opE {G G' : Prop} (h : G') (i : Wr G' → G := by
  intro h
  first | exact al_eqBo h.o | exact al_eqR h.o | exact al_eqA h.o) : G := i ⟨h⟩
theorem obE {G G' : Prop} (h : G') (i : Wr G' → G := by
  intro h
  (apply obl_read []; exact rfl; exact rfl; kernel_rfl; (intro _ _; first | (refine opE ?_; exact al_nil (ae_got rfl rfl)) | (refine al_on ?_; refine opE ?_; exact al_nil (ae_got rfl rfl))); exact h.o)) : G := i ⟨h⟩
end Av

namespace Av
open Go Go.RowKit Go.ChangeShapes Go.WideShapes Tw
abbrev okT : Ok := fun _ _ => True
def aggT (P : Program) (t : TypeId) : Bool := match P.underlying t with
  | some (.struct _) | some (.array _ _) => true
  | _ => false
/-- whatever reads as t is an f x -/
structure Rd (P : Program) (t : TypeId) (X : Type) (f : X → AV) (ok : X → Prop) : Prop where
  out : ∀ {H : Type} {enc : TypeId × Value → H} {w : World} {base : Nat} {sp : Nat → Bool} {held : Bool} {fuel : Nat} {cs : List Value} {x : DataW H × List MemPlace}, DataW.trod enc P w base sp held fuel t cs = some x → ∃ z, ok z ∧ RC okT w (f z) cs
  ag : ∀ z, (f z).isAgg = aggT P t
section
variable {P : Program} {t e : TypeId}
theorem rd_bool (ht : P.underlying t = some .bool) : Rd P t Bool boo (fun _ => True) := ⟨fun h => by
  obtain ⟨b, rfl, _⟩ := DataW.trod_bool ht h
  exact ⟨b, trivial, by rw [RC]; exact ⟨rfl, rfl⟩⟩, fun z => by simp [aggT, ht, AV.isAgg]⟩
theorem rd_int {k : IntKind} (ht : P.underlying t = some (.int k)) : Rd P t Int (fun n => .lit (.int k n)) (fun n => (Lit.int k n).wf = true) := ⟨fun h => by
  obtain ⟨n, rfl, _, hw⟩ := DataW.trod_int ht h
  exact ⟨n, hw, by rw [RC]; exact ⟨rfl, rfl⟩⟩, fun z => by simp [aggT, ht, AV.isAgg]⟩
theorem rd_i64 (ht : P.underlying t = some (.int .i64)) : Rd P t Int int (fun n => -9223372036854775808 ≤ n ∧ n ≤ 9223372036854775807) := ⟨fun h => by
  obtain ⟨n, rfl, _, hw⟩ := DataW.trod_int ht h
  refine ⟨n, ?_, by rw [RC]; exact ⟨rfl, rfl⟩⟩
  simp only [Lit.wf, Bool.and_eq_true, decide_eq_true_eq] at hw
  exact hw, fun z => by simp [aggT, ht, AV.isAgg]⟩
theorem rd_u64 (ht : P.underlying t = some (.int .u64)) : Rd P t Nat (fun n => .lit (.int .u64 n)) (fun n => n < 18446744073709551616) := ⟨fun h => by
  obtain ⟨n, rfl, _, hw⟩ := DataW.trod_int ht h
  simp only [Lit.wf, Bool.and_eq_true, decide_eq_true_eq] at hw
  have h1 : (0 : Int) ≤ n := hw.1
  have h2 : n ≤ (18446744073709551615 : Int) := hw.2
  refine ⟨n.toNat, by omega, ?_⟩
  rw [show ((n.toNat : Nat) : Int) = n by omega, RC]
  exact ⟨rfl, rfl⟩, fun z => by simp [aggT, ht, AV.isAgg]⟩
theorem rd_u8 (ht : P.underlying t = some (.int .u8)) : Rd P t UInt8 u8A (fun _ => True) := ⟨fun h => by
  obtain ⟨n, rfl, _, hw⟩ := DataW.trod_int ht h
  simp only [Lit.wf, Bool.and_eq_true, decide_eq_true_eq] at hw
  have h1 : (0 : Int) ≤ n := hw.1
  have h2 : n ≤ (255 : Int) := hw.2
  refine ⟨UInt8.ofNat n.toNat, trivial, ?_⟩
  rw [RC]
  refine ⟨?_, rfl⟩
  have : ((UInt8.ofNat n.toNat).toNat : Int) = n := by simp; omega
  rw [u8v, this], fun z => by simp [aggT, ht, AV.isAgg]⟩
theorem rd_str (ht : P.underlying t = some .string) : Rd P t Bs str (fun s => s.length ≤ maxLen) := ⟨fun h => by
  obtain ⟨s, rfl, _, hw⟩ := DataW.trod_string ht h
  refine ⟨s.data.toList, by simpa using hw, ?_⟩
  rw [RC]
  exact ⟨rfl, rfl⟩, fun z => by simp [aggT, ht, AV.isAgg]⟩
/-- fields, one behind the other from cell o on -/
structure RdS (P : Program) (l : List (TypeId × Nat)) (o tot : Nat) (X : Type) (fs : X → List AV) (ok : X → Prop) : Prop where
  out : ∀ {H : Type} {enc : TypeId × Value → H} {w : World} {base : Nat} {sp : Nat → Bool} {held : Bool} {n : Nat} {cs : List Value}, cs.length = tot →
    (∀ p ∈ l, ∃ y, DataW.trod enc P w base sp held n p.1 ((cs.drop p.2).take (P.cellsOf p.1)) = some y) → ∃ z : X, ok z ∧ RCs okT w (fs z) (cs.drop o)
theorem rdS_nil {tot : Nat} : RdS P [] tot tot Unit (fun _ => []) (fun _ => True) := ⟨fun hl _ => ⟨(), trivial, by rw [List.drop_of_length_le (by omega), RCs]⟩⟩
theorem rdS_cons {X Y : Type} {f : X → AV} {ok : X → Prop} {g : Y → List AV} {okY : Y → Prop} {l : List (TypeId × Nat)} {o k tot : Nat} (r : Rd P t X f ok) (hk : P.cellsOf t = k) (h : RdS P l (o + k) tot Y g okY) : RdS P ((t, o) :: l) o tot (X × Y) (fun z => f z.1 :: g z.2) (fun z => ok z.1 ∧ okY z.2) := ⟨fun hl hp => by
  obtain ⟨y, hy⟩ := hp (t, o) (by simp)
  obtain ⟨z, h1, h2⟩ := r.out hy
  obtain ⟨z', h3, h4⟩ := h.out hl (fun p hpm => hp p (by simp [hpm]))
  refine ⟨(z, z'), ⟨h1, h3⟩, ?_⟩
  rw [RCs]
  refine ⟨_, _, ?_, h2, h4⟩
  rw [hk, ← List.drop_drop, List.take_append_drop]⟩
def fieldsT (P : Program) (t : TypeId) : Option (List (TypeId × Nat)) := match P.underlying t with
  | some (.struct fs) => some (fs.toList.map fun f => (f.type, f.offset))
  | _ => none
theorem rd_struct {X : Type} {g : X → List AV} {ok : X → Prop} {l : List (TypeId × Nat)} {tot : Nat} (ht : fieldsT P t = some l) (hc : P.cellsOf t = tot) (h : RdS P l 0 tot X g ok) : Rd P t X (fun z => .agg tot (g z)) ok := by
  unfold fieldsT at ht
  split at ht
  · rename_i fs hu
    injection ht with ht
    subst ht
    refine ⟨fun hx => ?_, fun z => by simp [aggT, hu, AV.isAgg]⟩
    obtain ⟨xs, n, _, _, hl, hxs, he⟩ := DataW.trod_struct hu hx
    obtain ⟨z, h1, h2⟩ := h.out (n := n) (by rw [hl, hc]) (fun p hp => by
      obtain ⟨fd, hf, rfl⟩ := List.mem_map.1 hp
      obtain ⟨i, hi, hf⟩ := List.mem_iff_getElem.1 hf
      have hi' : i < fs.size := by simpa using hi
      have := he i fd (by rw [Array.getElem?_eq_getElem hi']; simpa using hf)
      rw [this, List.getElem?_eq_getElem (by omega)]
      exact ⟨_, rfl⟩)
    refine ⟨z, h1, ?_⟩
    rw [RC]
    exact ⟨by rw [hl, hc], by simpa using h2⟩
  · cases ht
theorem rd_array {X : Type} {f : X → AV} {ok : X → Prop} {n k tot : Nat} (r : Rd P e X f ok) (ht : P.underlying t = some (.array n e)) (hk : P.cellsOf e = k) (hc : P.cellsOf t = tot) (htot : n * k = tot) : Rd P t (List X) (fun l => .agg tot (l.map f)) (fun l => l.length = n ∧ ∀ x ∈ l, ok x) := by
  refine ⟨fun {H} {enc} {w} {base} {sp} {held} {fuel} {cs} {x} hx => ?_, fun z => by simp [aggT, ht, AV.isAgg]⟩
  obtain ⟨xs, m, _, _, hl, hxs, he⟩ := DataW.trod_array ht hx
  have key : ∀ j, j ≤ n → ∃ l : List X, l.length = j ∧ (∀ x ∈ l, ok x) ∧ RCs okT w (l.map f) (cs.take (j * k)) := by
    intro j
    induction j with
    | zero => exact fun _ => ⟨[], rfl, by simp, by simp [RCs]⟩
    | succ j ih =>
      intro hj
      obtain ⟨l, h1, h2, h3⟩ := ih (by omega)
      have h4 := he j (by omega)
      rw [List.getElem?_eq_getElem (by omega)] at h4
      obtain ⟨z, h5, h6⟩ := r.out h4
      refine ⟨l ++ [z], by simp [h1], fun x hx => ?_, ?_⟩
      · rcases List.mem_append.1 hx with hx | hx
        · exact h2 x hx
        · obtain rfl := List.mem_singleton.1 hx; exact h5
      · rw [hk] at h6
        have e1 : cs.take ((j + 1) * k) = cs.take (j * k) ++ ((cs.drop (j * k)).take k ++ []) := by
          rw [List.append_nil, Nat.add_mul, Nat.one_mul, List.take_add]
        rw [e1, List.map_append]
        refine h3.append ?_
        rw [List.map_cons, List.map_nil, RCs]
        exact ⟨_, [], rfl, h6, by rw [RCs]⟩
  obtain ⟨l, h1, h2, h3⟩ := key n (Nat.le_refl _)
  refine ⟨l, ⟨h1, h2⟩, ?_⟩
  rw [RC]
  refine ⟨by rw [hl, hc], ?_⟩
  rwa [List.take_of_length_le (by rw [hl, hc, htot]; exact Nat.le_refl _)] at h3
theorem rd_hash (r : Rd P e UInt8 u8A (fun _ => True)) (ht : P.underlying t = some (.array 32 e)) (hk : P.cellsOf e = 1) (hc : P.cellsOf t = 32) : Rd P t Hsh hA (fun _ => True) := by
  have h := rd_array r ht hk hc rfl
  refine ⟨fun hx => ?_, fun z => by simp [aggT, ht, AV.isAgg, hA]⟩
  obtain ⟨l, ⟨h1, _⟩, h2⟩ := h.out hx
  exact ⟨⟨l, h1⟩, trivial, h2⟩
theorem rd_slice {X : Type} {f : X → AV} {ok : X → Prop} {k : Nat} (r : Rd P e X f ok) (ht : P.underlying t = some (.slice e)) (hk : P.cellsOf e = k) (h0 : Nat.blt 0 k = true) : Rd P t (List X) (fun l => .sl k (l.map f) none) (fun l => l.length ≤ maxLen ∧ ∀ x ∈ l, ok x) := by
  have h0 : 0 < k := Nat.le_of_ble_eq_true h0
  refine ⟨fun {H} {enc} {w} {base} {sp} {held} {fuel} {cs} {x} hx => ?_, fun z => by simp [aggT, ht, AV.isAgg]⟩
  rcases DataW.trod_slice ht hx with ⟨rfl, _⟩ | ⟨a, len, cap, elems, rest, n, _, rfl, _, _, hlc, hcm, hel, he, _⟩
  · refine ⟨[], ⟨by simp, by simp⟩, ?_⟩
    rw [RC]
    exact ⟨none, 0, rfl, by simp, Nat.le_refl _, by simp [maxLen], by simp, by simp⟩
  · have hcell : ∀ i, i < len → ∃ c : List Value, c.length = k ∧ (∀ j, j < k → w.cell? ((a.add (i * k)).add j) = c[j]?) ∧ ∃ y, DataW.trod enc P w base sp held n e c = some y := by
      intro i hi
      have h1 := he i hi
      rw [List.getElem?_eq_getElem (by omega), Option.bind_eq_some_iff] at h1
      obtain ⟨c, h2, h3⟩ := h1
      obtain ⟨_, h4, h5⟩ := World.cells?_some h2
      rw [hk] at h4 h5
      exact ⟨c, h4, h5, _, h3⟩
    by_cases hn : 0 < len
    · obtain ⟨b, o, s⟩ := a
      have hs : s = none := by
        obtain ⟨c, hc1, hc2, _⟩ := hcell 0 hn
        have := hc2 0 h0
        rw [List.getElem?_eq_getElem (by omega)] at this
        rw [Nat.zero_mul] at this
        simp only [Addr.add, if_true] at this
        unfold World.cell? at this
        cases s with
        | none => rfl
        | some v => simp at this; split at this <;> cases this
      subst hs
      have key : ∀ j, j ≤ len → ∃ (l : List X) (es : List Value), l.length = j ∧ (∀ x ∈ l, ok x) ∧ (∀ x ∈ l, (f x).size = k) ∧ es.length = j * k ∧ At okT w b o es ∧ RCs okT w (l.map f) es := by
        intro j
        induction j with
        | zero => exact fun _ => ⟨[], [], rfl, by simp, by simp, by simp, (by intro j v hj; simp at hj), by simp [RCs]⟩
        | succ j ih =>
          intro hj
          obtain ⟨l, es, h1, h2, h2', h3, h4, h5⟩ := ih (by omega)
          obtain ⟨c, hc1, hc2, y, hc3⟩ := hcell j (by omega)
          obtain ⟨z, h6, h7⟩ := r.out hc3
          refine ⟨l ++ [z], es ++ c, by simp [h1], fun x hx => ?_, fun x hx => ?_, by rw [List.length_append, h3, hc1, Nat.add_mul, Nat.one_mul], fun i v hi => ⟨?_, trivial⟩, ?_⟩
          · rcases List.mem_append.1 hx with hx | hx
            · exact h2 x hx
            · obtain rfl := List.mem_singleton.1 hx; exact h6
          · rcases List.mem_append.1 hx with hx | hx
            · exact h2' x hx
            · obtain rfl := List.mem_singleton.1 hx
              rw [← h7.len, hc1]
          · rcases Nat.lt_or_ge i es.length with hlt | hge
            · rw [List.getElem?_append_left hlt] at hi
              exact (h4 i v hi).1
            · rw [List.getElem?_append_right hge] at hi
              have hik : i - es.length < k := by
                have := (List.getElem?_eq_some_iff.1 hi).1
                omega
              have := hc2 (i - es.length) hik
              rw [add_plain, add_plain, hi, h3] at this
              rw [← this]
              congr 2
              omega
          · rw [List.map_append]
            refine h5.append ?_
            rw [List.map_cons, List.map_nil, RCs]
            exact ⟨c, [], by simp, h7, by rw [RCs]⟩
      obtain ⟨l, es, h1, h2, h2', h3, h4, h5⟩ := key len (Nat.le_refl _)
      refine ⟨l, ⟨by omega, h2⟩, ?_⟩
      rw [RC]
      refine ⟨some ⟨b, o, none⟩, cap, by simp [h1], by simp, by simp [h1]; omega, hcm, fun _ => ⟨b, o, es, rfl, by simp [h1, h3], h4, h5⟩, fun x hx => ?_⟩
      obtain ⟨z, hz, rfl⟩ := List.mem_map.1 hx
      exact h2' z hz
    · obtain rfl : len = 0 := by omega
      refine ⟨[], ⟨by simp, by simp⟩, ?_⟩
      rw [RC]
      exact ⟨some a, cap, rfl, by simp, by simp, hcm, by simp, by simp⟩
theorem agg_okWide {w : World} {r : Reach} {base : Nat} {v : Value} (h : Value.okWide P w r base t v) {H : Type} {enc : TypeId × Value → H} {w' : World} {b : Nat} {sp : Nat → Bool} {held : Bool} {d : DataW H} {ps : List MemPlace} (hd : DataW.Trod enc P w' b sp held t v d ps)
    {X : Type} {f : X → AV} {ok : X → Prop} (rd : Rd P t X f ok) : ∃ z, ok z ∧ RV0 okT w' (f z) v := by
  obtain ⟨n, hn⟩ := hd
  obtain ⟨z, h1, h2⟩ := rd.out hn
  refine ⟨z, h1, h2, ?_⟩
  rw [rd.ag]
  unfold aggT
  unfold Value.okWide at h
  split at h
  · rename_i hu
    obtain ⟨cs, rfl, _⟩ := h
    simp [hu, isAggV]
  · rename_i hu
    obtain ⟨cs, rfl, _⟩ := h
    simp [hu, isAggV]
  · rename_i hu1 hu2
    have e : (match P.underlying t with | some (.struct _) | some (.array _ _) => true | _ => false) = false := by
      split
      · rename_i hu; exact absurd hu (hu1 _)
      · rename_i hu; exact absurd hu (hu2 _ _)
      · rfl
    rw [e]
    have hl := h2.len
    have hsz : (f z).size = 1 := by
      have ha : (f z).isAgg = false := by rw [rd.ag]; exact e
      cases hf : f z <;> simp [hf, AV.isAgg] at ha <;> rfl
    cases v <;> first | rfl | skip
    exfalso
    rename_i cs
    revert h
    unfold Cell.okWide
    cases hP : P.underlying t with
    | none => simp [Cell.ok, hP]
    | some D => cases D <;> simp_all [Cell.ok]
/-- arguments -/
structure RdA (P : Program) (ts : List TypeId) (X : Type) (fs : X → List AV) (ok : X → Prop) : Prop where
  out : ∀ {H : Type} {enc : TypeId × Value → H} {W : World} {base b : Nat} {sp : Nat → Bool} {held : Bool} {vs : List Value} {ds : List (DataW H)} {ps : List MemPlace}, (∀ (j : Nat) t v, ts[j]? = some t → vs[j]? = some v → Value.okWide P W .any base t v) →
    DataW.TrodAll enc P W b sp held ts vs ds ps → ∃ z : X, ok z ∧ RVs okT W (fs z) vs
theorem rdA_nil : RdA P [] Unit (fun _ => []) (fun _ => True) := ⟨fun _ h => by
  obtain ⟨rfl, _, _⟩ := trodAll_nil h
  exact ⟨(), trivial, rfl⟩⟩
theorem rdA_cons {X Y : Type} {f : X → AV} {ok : X → Prop} {g : Y → List AV} {okY : Y → Prop} {ts : List TypeId} (r : Rd P t X f ok) (h : RdA P ts Y g okY) : RdA P (t :: ts) (X × Y) (fun z => f z.1 :: g z.2) (fun z => ok z.1 ∧ okY z.2) := ⟨fun hv ht => by
  obtain ⟨v, vs, d, ds, p, q, rfl, rfl, rfl, h1, h2⟩ := trodAll_cons ht
  obtain ⟨z, g1, g2⟩ := agg_okWide (hv 0 t v rfl rfl) h1 r
  obtain ⟨z', g3, g4⟩ := h.out (fun j t' v' ha hb => hv (j + 1) t' v' ha hb) h2
  exact ⟨(z, z'), ⟨g1, g3⟩, _, _, rfl, g2, g4⟩⟩
end
section
variable {P : Program}
theorem below_of_ext {w w' : World} (h : Ext w w') : Below w.heap.size w w' := ⟨h.os, h.tape, h.output, h.size, h.block⟩
theorem trodAll_stays {H : Type} {enc : TypeId × Value → H} {W W' : World} {sp : Nat → Bool} (hl : laidOutB P = true) (hb : Below W.heap.size W W') : ∀ {ts : List TypeId} {vs : List Value} {ds : List (DataW H)} {ps : List MemPlace}, ts.all (fun t => P.readableRec t && decide (t < P.types.size)) = true →
    DataW.TrodAll enc P W 0 (fun _ => true) true ts vs ds ps → (∀ p ∈ ps, p.block < W.heap.size) → (∀ p ∈ ps, sp p.block = true) → DataW.TrodAll enc P W' 0 sp true ts vs ds ps
  | [], _, _, _, _, h, _, _ => by
    obtain ⟨rfl, rfl, rfl⟩ := trodAll_nil h
    exact rfl
  | t :: ts, _, _, _, hr, h, hlt, hsp => by
    obtain ⟨v, vs, d, ds, p, q, rfl, rfl, rfl, h1, h2⟩ := trodAll_cons h
    simp only [List.all_cons, Bool.and_eq_true, decide_eq_true_eq] at hr
    exact ⟨p, q, WideElems.Trod_stays hl hr.1.1 hr.1.2 h1 (fun x hx => hb.same (hlt x (by simp [hx]))) (fun x hx => hsp x (by simp [hx])),
      trodAll_stays hl hb hr.2 h2 (fun x hx => hlt x (by simp [hx])) (fun x hx => hsp x (by simp [hx])), rfl⟩
/-- a law whose function answers true, whatever the arguments -/
theorem law_calls {H : Type} {enc : TypeId × Value → H} {f : FuncId} {fn : Func} {s : ChangeSpec} {apart fresh handsOn again : Bool} {gl : List (Nat × AV)} {tb : TypeId} {X : Type} {fs : X → List AV} {ok : X → Prop} {W : World} {base : Nat} {args : Array Value} {ds gs : List (DataW H)} {before : List MemPlace}
    (hr : fn.resultTypes = #[tb]) (htb : P.underlying tb = some .bool) (hs : s.vars = []) (hl : laidOutB P = true) (hrd : fn.params.toList.all (fun t => P.readableRec t && decide (t < P.types.size)) = true)
    (rd : RdA P fn.params.toList X fs ok) (hfn : ∀ ds : List (DataW H), ds.length = fn.params.toList.length → s.fn H ds = { results := [.lit (.bool true)], args := ds })
    (hspec : ∀ z, ok z → SpecE P gl f (fs z) (boo true)) (hgl : Glob gl okT W)
    (hval : ∀ (j : Nat) t v, fn.params[j]? = some t → args[j]? = some v → Value.okWide P W .any base t v)
    (hW : DataW.Whole enc P fn.params.toList s.vars apart W args.toList ds gs before) : Calls P f args W fun e W' => ∃ v, e = .returned v ∧ s.post enc P fn apart fresh handsOn again W args v W' := by
  have hW' := hW
  obtain ⟨p, q, hA, hV, rfl, hfz, hnd⟩ := hW'
  rw [hs] at hV
  obtain ⟨rfl, rfl⟩ := trodVars_none hV
  obtain ⟨z, hz, hvs⟩ := rd.out (fun j t v h1 h2 => hval j t v (by simpa using h1) (by simpa using h2)) hA
  have hlen : ∀ {ts : List TypeId} {vs : List Value} {ds : List (DataW H)} {ps : List MemPlace}, DataW.TrodAll enc P W 0 (fun _ => true) true ts vs ds ps → ds.length = ts.length := by
    intro ts
    induction ts with
    | nil => intro vs ds ps h; obtain ⟨_, rfl, _⟩ := trodAll_nil h; rfl
    | cons t ts ih =>
      intro vs ds ps h
      obtain ⟨_, _, _, _, _, _, _, rfl, _, _, h2⟩ := trodAll_cons h
      simp [ih h2]
  have hds := hfn ds (hlen hA)
  have hS := St.start gl W okT (fun _ _ _ => trivial) hgl
  have hrun := (hspec z hz).run okT W args.toList hS hvs
  rw [Array.toArray_toList] at hrun
  refine Calls.mono hrun fun x W' hx => ?_
  obtain ⟨v, m', ok', cv, ⟨rfl, rfl⟩, rfl, g1, g2⟩ := hx
  have g1 := RV.lit g1
  subst g1
  have hb := below_of_ext g2.out
  have hlt : ∀ x ∈ p ++ [], x.block < W.heap.size := fun x hx => hW.lt x hx
  refine ⟨_, rfl, ?_⟩
  have hres : ∀ (b : Nat) (sp : Nat → Bool) (hd : Bool), DataW.TrodAll enc P W' b sp hd fn.resultTypes.toList ((Value.bool true).resultList fn.resultTypes.size) (s.fn H (ds ++ [])).results [] := fun b sp hd => by
    rw [List.append_nil, hds, hr]
    exact trodAll_cons_mk (shut_bool htb true) trodAll_mk0
  have hargs : ∀ sp : Nat → Bool, (∀ x ∈ p ++ [], sp x.block = true) → DataW.TrodAll enc P W' 0 sp true fn.params.toList args.toList (s.fn H (ds ++ [])).args p := fun sp hsp => by
    rw [List.append_nil, hds]
    exact trodAll_stays hl hb hrd hA (fun x hx => hlt x (by simp [hx])) (fun x hx => hsp x (by simp [hx]))
  have hvars : ∀ sp : Nat → Bool, DataW.TrodVars enc P W' sp s.vars (s.fn H (ds ++ [])).vars [] := fun sp => by
    rw [List.append_nil, hds, hs]
    rfl
  have hold : ∀ x ∈ p ++ [], (fun b => decide (b < W.heap.size)) x.block = true := fun x hx => by simpa using hlt x hx
  refine ⟨ds, [], p ++ [], [], p, [], hW, hres _ _ _, hargs _ hold, hvars _, World.keptBut_mono (fun x hx => ⟨hx, ?_⟩) (hb.frame (· ∈ p ++ [])), fun _ => ?_⟩
  · rw [List.append_nil] at hx
    exact Or.inr (Or.inl hx)
  · refine ⟨ok_one hr rfl (okWide_bool_mk htb _), _, _, ([] ++ p) ++ [], ⟨[] ++ p, [], trodAll_append (hargs _ (fun _ _ => rfl)) (hres _ _ _), hvars _, rfl, ?_, ?_⟩, ?_⟩
    · intro b off hp
      have h1 := hlt (.cell b off) (by simpa using hp)
      rw [hb.frozen (p := ⟨b, off, none⟩) h1]
      exact hfz b off (by simpa using hp)
    · intro ha
      have := hnd ha
      simpa using this
    · intro x hx _
      simpa using hx
end
end Av

namespace Av
open Go Go.RowKit Tw
/-! what is told otherwise -/
class ImpT (a : AV) (b : AV) : Prop where
  imp : ImpC a b
class ImpTs (as bs : List AV) : Prop where
  imp : ∀ ok w cs, RCs ok w as cs → RCs ok w bs cs
instance (priority := low) {a : AV} : ImpT a a := ⟨fun _ _ _ h => h⟩
instance {k : Nat} : ImpT (.lit (.slice none 0 0)) (.sl k [] none) := ⟨ImpC.nil⟩
instance {k : Nat} {xs : List AV} {id : Option Value} : ImpT (.sl k xs id) (.sl k xs none) := ⟨fun _ _ cs h => by
  rw [RC] at h ⊢
  obtain ⟨A, c, h1, _, h3⟩ := h
  exact ⟨A, c, h1, by simp, h3⟩⟩
instance {n : Nat} {as bs : List AV} [h : ImpTs as bs] : ImpT (.agg n as) (.agg n bs) := ⟨fun _ _ cs hc => by
  rw [RC] at hc ⊢
  exact ⟨hc.1, h.imp _ _ _ hc.2⟩⟩
instance : ImpTs [] [] := ⟨fun _ _ _ h => h⟩
instance {a b : AV} {as bs : List AV} [h : ImpT a b] [g : ImpTs as bs] : ImpTs (a :: as) (b :: bs) := ⟨fun _ _ cs hc => by
  rw [RCs] at hc ⊢
  obtain ⟨c1, c2, e, h1, h2⟩ := hc
  exact ⟨c1, c2, e, h.imp _ _ _ h1, g.imp _ _ _ h2⟩⟩
class SameAg (a b : AV) : Prop where
  out : a.isAgg = b.isAgg
instance {n m : Nat} {as bs : List AV} : SameAg (.agg n as) (.agg m bs) := ⟨rfl⟩
instance {v : Value} {k : Nat} {xs : List AV} {id : Option Value} : SameAg (.lit v) (.sl k xs id) := ⟨rfl⟩
instance {k l : Nat} {xs ys : List AV} {id id' : Option Value} : SameAg (.sl k xs id) (.sl l ys id') := ⟨rfl⟩
instance (priority := low) {a : AV} : SameAg a a := ⟨rfl⟩
theorem RV0.impT {ok : Ok} {w : World} {a b : AV} {v : Value} (h : ImpT a b) (g : SameAg a b) (hv : RV0 ok w a v) : RV0 ok w b v := ⟨h.imp _ _ _ hv.1, g.out ▸ hv.2⟩
class ImpRs (as bs : List AV) : Prop where
  imp : ∀ ok w vs, RVs ok w as vs → RVs ok w bs vs
instance : ImpRs [] [] := ⟨fun _ _ _ h => h⟩
instance {a b : AV} {as bs : List AV} [h : ImpT a b] [g : SameAg a b] [k : ImpRs as bs] : ImpRs (a :: as) (b :: bs) := ⟨fun ok w vs hv => by
  obtain ⟨u, us, e, h1, h2⟩ := hv
  exact ⟨u, us, e, h1.impT h g, k.imp _ _ _ h2⟩⟩
/-- of results -/
class ImpR (a b : AV) : Prop where
  imp : Imp a b
instance (priority := low) {a : AV} : ImpR a a := ⟨fun _ _ _ h => h⟩
instance {as bs : List AV} [h : ImpRs as bs] : ImpR (.tup as) (.tup bs) := ⟨fun ok w v hv => by
  obtain ⟨vs, e, h1⟩ := hv
  exact ⟨vs, e, h.imp _ _ _ h1⟩⟩
instance {n m : Nat} {as bs : List AV} [h : ImpT (.agg n as) (.agg m bs)] : ImpR (.agg n as) (.agg m bs) := ⟨fun _ _ _ hv => RV0.impT h ⟨rfl⟩ hv⟩
instance {k : Nat} : ImpR (.lit (.slice none 0 0)) (.sl k [] none) := ⟨Imp.nilN⟩
instance {k : Nat} {xs : List AV} {id : Option Value} : ImpR (.sl k xs id) (.sl k xs none) := ⟨Imp.sl⟩
section
variable {P : Program} {N : Nat} {ops : Array Oper} {Q : Exit → Act → World → Prop} {rest : List Oper} {s : Base} {e : Env} {m : List Piece} {d : Nat} {ty : TypeId} {pos : String} {af : Array Edge} {gl : List (Nat × AV)}
/-- a function's end, its answer told otherwise -/
theorem reI {fn : Func} {out : AV} {rs : List ResultVar} {vs : List AV} (h : Imp (outOf vs) out) (hr : fn.results = rs.toArray := by exact rfl) (hh : Ress P N s e m rs vs := by
    repeat (first | exact Av.ress_nil | (apply Av.ress_cons; (first | (apply Av.res_tmp; exact rfl; exact rfl) | (apply Av.res_cell; exact rfl; (repeat (first | exact Av.Has.here | apply Av.Has.there)); exact rfl))))) : AE N .ret (bodyPost P fn (Back s fun v m' => v = out ∧ m' = [])) s e m := AE.mk fun ok w a hS ha => by
  have h1 := (ae_ret (K := fun v m' => v = outOf vs ∧ m' = []) (m := m) hr hh (.inl rfl) ⟨rfl, rfl⟩ (List.nil_sublist _)).run ok w a hS ha
  obtain ⟨d, cv, r, v, m'', ok', cv', ⟨rfl, rfl⟩, e1, hv, hS'⟩ := h1
  exact ⟨d, cv, r, out, [], ok', cv', ⟨rfl, rfl⟩, e1, h _ _ _ hv, hS'⟩
/-- a call; its arguments told otherwise -/
theorem spec_args {f : FuncId} {as bs : List AV} {m : List Piece} {K : AV → List Piece → Prop} (h : Spec P gl f bs m K) (hi : ImpRs as bs := by infer_instance) : Spec P gl f as m K := Spec.mk fun ok w c hS hv => h.run ok w c hS (hi.imp _ _ _ hv)
theorem al_callI {f : FuncId} [hf : FnB P f] {xs : List Operand} {ts : Array TypeId} {args : List AV} (args' : List AV) {pre : Prop} {out : AV} (h : AL P N ops Q s rest ((d, out) :: e) m) (hx : evs e xs = some args := by exact rfl) (hi : ImpRs args args' := by infer_instance) (hg : s.gl = gl := by assumption) (hc : Ans P gl f args' pre out := by infer_instance)
    (hp : pre := by first | exact True.intro | assumption | omega | (simp only [List.length_take, List.length_drop]; omega) | (simp only [true_and, and_true]; omega)) (hn : args.all noTup = true := by exact rfl) (hd : Nat.blt d N = true := by exact rfl) : AL P N ops Q s (⟨some d, .call ⟨.value (.func f), xs.toArray, ts⟩, ty, pos, af, none⟩ :: rest) e m :=
  al_callK (K := fun v m' => v = out ∧ m' = []) [] m (by rw [hg]; exact spec_args (hc.spec hp) hi) (fun v m1' hh => by obtain ⟨h1, h2⟩ := hh; subst h1 h2; exact h) (List.Perm.refl _) hx hn hd
/-- an element's place in data: a known place -/
theorem al_idxK {S E : TypeId} {k bS : Nat} [t : TyL P S E k bS] {x ix : Operand} {kd : IntKind} {i : Int} {xs : List AV} {id : Option Value} {u : AV} (h : AL P N ops Q s rest ((d, .pd u) :: e) m) (hx : ev e x = some (.sl k xs id) := by exact rfl) (hi : ev e ix = some (.lit (.int kd i)) := by exact rfl) (hj : i = Int.ofNat i.toNat := by exact rfl) (hu : xs[i.toNat]? = some u := by exact rfl) (hd : Nat.blt d N = true := by exact rfl) :
    AL P N ops Q s (⟨some d, .indexAddr S x ix, ty, pos, af, none⟩ :: rest) e m := al_idxD i.toNat h hx hi hj hu hd
/-- a meeting of ways: what both leave for the rest -/
theorem ac_mid {c c2 : Code} {Q1 : Exit → Act → World → Prop} {α : Type} (I : α → Env) (M : α → List Piece) (h1 : AC P N c (Exit.then (fun a w => ∃ z ok, Sat N ok w (I z) a ∧ St s ok (M z) w) Q) s e m) (h2 : ∀ z, AC P N c2 Q1 s (I z) (M z)) : AC P N c (Exit.then (fun a w => c2.wp P Q1 a w) Q) s e m := AC.mk fun ok w a hS ha =>
  wp_mono (h1.run ok w a hS ha) fun x a' w' hx => by cases x <;> first | (obtain ⟨z, ok', g1, g2⟩ := hx; exact (h2 z).run _ _ _ g2 g1) | exact hx
theorem boo_iff {a b : Bool} (h : a = true ↔ b = true) : boo a = boo b := by rw [Bool.eq_iff_iff.2 h]
/-- a slice that is there has a length -/
theorem al_bnd {l : List Oper} {k : Nat} {xs : List AV} {id : Option Value} (t : Nat) (h : xs.length ≤ maxLen → AL P N ops Q s l e m) (hv : lk e t = some (.sl k xs id) := by exact rfl) : AL P N ops Q s l e m := AL.mk fun ok w a hS ha => by
  obtain ⟨A, c, _, _, h1, h2, _⟩ := sl_run (ha.env t _ hv)
  exact (h (by omega)).run ok w a hS ha
theorem ac_bnd {c : Code} {k : Nat} {xs : List AV} {id : Option Value} (t : Nat) (h : xs.length ≤ maxLen → AC P N c Q s e m) (hv : lk e t = some (.sl k xs id) := by exact rfl) : AC P N c Q s e m := AC.mk fun ok w a hS ha => by
  obtain ⟨A, c, _, _, h1, h2, _⟩ := sl_run (ha.env t _ hv)
  exact (h (by omega)).run ok w a hS ha
theorem bnd_part {ok : Ok} {w : World} {k : Nat} {xs : List AV} {id : Option Value} : ∀ {ps : List AV} {cs : List Value} {i : Nat}, RCs ok w ps cs → ps[i]? = some (.sl k xs id) → xs.length ≤ maxLen
  | [], cs, i, _, h => by simp at h
  | p :: ps, cs, 0, hc, h => by
    rw [RCs] at hc
    obtain ⟨c1, c2, rfl, h1, h2⟩ := hc
    simp at h
    subst h
    rw [RC] at h1
    obtain ⟨A, c, _, _, g1, g2, _⟩ := h1
    omega
  | p :: ps, cs, i + 1, hc, h => by
    rw [RCs] at hc
    obtain ⟨c1, c2, rfl, h1, h2⟩ := hc
    exact bnd_part (i := i) h2 (by simpa using h)
/-- a slice within a struct -/
theorem ac_bndA {c : Code} {k n : Nat} {xs ps : List AV} {id : Option Value} (t i : Nat) (h : xs.length ≤ maxLen → AC P N c Q s e m) (hv : lk e t = some (.agg n ps) := by exact rfl) (hp : ps[i]? = some (.sl k xs id) := by exact rfl) : AC P N c Q s e m := AC.mk fun ok w a hS ha => by
  obtain ⟨cs, _, h1⟩ := agg_run (ha.env t _ hv)
  rw [RC] at h1
  exact (h (bnd_part h1.2 hp)).run ok w a hS ha
theorem maxLen_le {n : Nat} (h : n ≤ maxLen) : n ≤ 9223372036854775807 := Nat.le_trans h (by decide)
/-! masks -/
theorem mask_nat (a : BitVec 64) (k : Nat) (hk : k < 63) : (a &&& BitVec.ofInt 64 ((2 ^ k : Nat) - 1 : Int)).toNat = a.toNat % 2 ^ k := by
  have h1 : (BitVec.ofInt 64 ((2 ^ k : Nat) - 1 : Int)).toNat = 2 ^ k - 1 := by
    have h2 : ((2 ^ k : Nat) - 1 : Int) = ((2 ^ k - 1 : Nat) : Int) := by
      have := Nat.one_le_two_pow (n := k)
      omega
    rw [h2, BitVec.ofInt_natCast, BitVec.toNat_ofNat, Nat.mod_eq_of_lt]
    have : 2 ^ k ≤ 2 ^ 64 := Nat.pow_le_pow_right (by omega) (by omega)
    have := Nat.one_le_two_pow (n := k)
    omega
  rw [BitVec.toNat_and, h1, Nat.and_two_pow_sub_one_eq_mod]
theorem mask_run (n : Int) (k : Nat) (hk : k < 63) (P : Program) (w : World) : (Op.intBits .and .i64 n ((2 ^ k : Nat) - 1 : Int)).run P w = .ok (.int .i64 (n % (2 ^ k : Nat))) w := by
  have hp : (2 : Nat) ^ k < 2 ^ 63 := Nat.pow_lt_pow_right (by omega) hk
  have h0 : 0 < 2 ^ k := Nat.two_pow_pos k
  show Result.ok (Value.int .i64 (IntKind.i64.wrap ((BitVec.ofInt 64 n &&& BitVec.ofInt 64 ((2 ^ k : Nat) - 1 : Int)).toNat : Int))) w = _
  rw [mask_nat _ _ hk, BitVec.toNat_ofInt]
  have h2 : (((n % ((2 ^ 64 : Nat) : Int)).toNat % 2 ^ k : Nat) : Int) = n % ((2 ^ k : Nat) : Int) := by
    rw [Int.natCast_emod, Int.toNat_of_nonneg (Int.emod_nonneg _ (by decide))]
    refine Int.emod_emod_of_dvd n ?_
    exact Int.natCast_dvd_natCast.2 (Nat.pow_dvd_pow 2 (by omega))
  rw [h2]
  have h3 := Int.emod_nonneg n (b := ((2 ^ k : Nat) : Int)) (by omega)
  have h4 := Int.emod_lt_of_pos n (b := ((2 ^ k : Nat) : Int)) (by omega)
  rw [wrap64_id (by omega) (by omega)]
/-- and with a mask -/
theorem al_mask {T yT : TypeId} {x y : Operand} {n b : Int} (k : Nat) (h : AL P N ops Q s rest ((d, int (n % (2 ^ k : Nat))) :: e) m) (hx : ev e x = some (int n) := by exact rfl) (hy : ev e y = some (int b) := by exact rfl) (hb : b = ((2 ^ k : Nat) - 1 : Int) := by exact rfl) (hk : k < 63 := by omega) (hd : Nat.blt d N = true := by exact rfl) : AL P N ops Q s (⟨some d, .binOp .and T x y yT, ty, pos, af, none⟩ :: rest) e m := by
  subst hb
  exact al_bits rfl hx hy (fun w => mask_run n k hk P w) (.inl rfl) hd h
/-! bytes: bit by bit -/
def bit8 : BinOp → UInt8 → UInt8 → Option UInt8
  | .and, a, b => some (a &&& b)
  | .or, a, b => some (a ||| b)
  | .xor, a, b => some (a ^^^ b)
  | _, _, _ => none
theorem bit8_run {op : BinOp} {a b c : UInt8} (h : bit8 op a b = some c) (P : Program) (w : World) : (Op.intBits op .u8 a.toNat b.toNat).run P w = .ok (u8v c) w := by
  have e1 : ∀ a : UInt8, BitVec.ofInt 8 (a.toNat : Int) = a.toBitVec := fun a => by
    apply BitVec.eq_of_toNat_eq
    rw [BitVec.ofInt_natCast, BitVec.toNat_ofNat, Nat.mod_eq_of_lt a.toNat_lt]
    rfl
  have e2 : ∀ c : UInt8, IntKind.u8.wrap (c.toNat : Int) = (c.toNat : Int) := fun c => by
    have := c.toNat_lt
    rw [IntKind.wrap_u8]
    omega
  unfold Op.intBits
  dsimp only
  rw [show BitVec.ofInt IntKind.u8.bits (a.toNat : Int) = a.toBitVec from e1 a, show BitVec.ofInt IntKind.u8.bits (b.toNat : Int) = b.toBitVec from e1 b]
  cases op <;> (first | (cases h; done) | (injection h with h; subst h; rw [u8v, ← e2]; rfl))
theorem al_bit8 {op : BinOp} {T yT : TypeId} {x y : Operand} {a b c : UInt8} (h : AL P N ops Q s rest ((d, u8A c) :: e) m) (hx : ev e x = some (u8A a) := by exact rfl) (hy : ev e y = some (u8A b) := by exact rfl) (hc : bit8 op a b = some c := by exact rfl) (hd : Nat.blt d N = true := by exact rfl) : AL P N ops Q s (⟨some d, .binOp op T x y yT, ty, pos, af, none⟩ :: rest) e m :=
  al_bits rfl hx hy (fun w => bit8_run hc P w) (by cases op <;> simp [bit8] at hc <;> simp) hd h
/-! a text copied into an array of bytes -/
def copyB (l a : Bs) : Bs := a.take l.length ++ l.drop a.length
theorem copyB_len (l a : Bs) : (copyB l a).length = l.length := by
  simp only [copyB, List.length_append, List.length_take, List.length_drop]
  omega
theorem al_copyS {T E T2 : TypeId} {b : Nat} [t : TyL P T E 1 b] {x y : Operand} {g n c : Nat} {T0 : TypeId} {l a : Bs} {m' : List Piece} (hn : n = l.length) (h : AL P N ops Q s rest ((d, int (min a.length n : Nat)) :: e) m') (hx : ev e x = some (.lit (.slice (some ⟨g, 0, none⟩) n c)) := by exact rfl) (hy : ev e y = some (str a) := by exact rfl)
    (hu : Upd m (.var g T0 (.agg n (l.map u8A))) (.var g T0 (.agg n ((copyB l a).map u8A))) m' := by (repeat (first | apply Av.Upd.here | apply Av.Upd.there))) (hd : Nat.blt d N = true := by exact rfl) :
    AL P N ops Q s (⟨some d, .call ⟨.builtin .copy, #[x, y], #[T, T2]⟩, ty, pos, af, none⟩ :: rest) e m := by
  subst hn
  refine al_step (v := int (min a.length l.length : Nat)) (fun ok w B hS hB => ?_) hd
  obtain ⟨pre, post, rfl, rfl⟩ := hu.parts
  obtain ⟨cs, hb, hg⟩ := hS.at_ (.var g T0 (.agg l.length (l.map u8A))) (by simp)
  rw [RC] at hg
  have hcs := RCs_u8_eq hg.2
  subst hcs
  have hcl : ((a.take l.length).map u8v).length = min a.length l.length := by simp [Nat.min_comm]
  have hrun := run_storeCells_at (P := P) g 0 T0 ((a.take l.length).map u8v) 0 (l.map u8v).toArray w hb (by rw [hcl]; simp; omega) (fun v hv => by
    obtain ⟨c, _, rfl⟩ := List.mem_map.1 hv
    rfl)
  have e7 : ((l.map u8v).take 0 ++ (a.take l.length).map u8v ++ (l.map u8v).drop (0 + ((a.take l.length).map u8v).length)) = (copyB l a).map u8v := by
    rw [List.take_zero, List.nil_append, Nat.zero_add, hcl, copyB, List.map_append, ← List.map_drop]
    congr 2
    rcases Nat.le_total a.length l.length with h | h
    · rw [Nat.min_eq_left h]
    · rw [Nat.min_eq_right h, List.drop_length, List.drop_of_length_le h]
  simp only [Nat.add_zero] at hrun
  rw [show (List.take 0 (l.map u8v).toArray.toList ++ (a.take l.length).map u8v ++ List.drop (0 + ((a.take l.length).map u8v).length) (l.map u8v).toArray.toList) = (copyB l a).map u8v from e7] at hrun
  obtain ⟨h1, h2⟩ := hS.writeVar (v' := .agg l.length ((copyB l a).map u8A)) (cs' := (copyB l a).map u8v) (by rw [RC]; exact ⟨by simp [copyB_len], RCs_u8 _⟩) (fun cs2 hb2 => by
    rw [hb] at hb2
    injection hb2 with hb2
    injection hb2 with hb2
    have : l.map u8v = cs2 := by simpa using congrArg Array.toList hb2
    rw [← this]
    simp [copyB_len])
  refine ⟨.int .i64 (min a.length l.length : Nat), _, ok, _, ?_, RVl rfl, h1, h2, h⟩
  have e5 : List.take (Nat.min a.length l.length) (List.map (fun b : UInt8 => Value.int .u8 (b.toNat : Int)) a) = (a.take l.length).map u8v := by
    rw [← List.map_take]
    show (a.take (min a.length l.length)).map u8v = _
    rw [Nat.min_comm, ← List.take_take, List.take_length]
  simp only [execOp, resolve, invoke, builtin, hB.lit hx, hB.lit hy, Builtin.copy_, List.map_toArray, List.map_cons, List.map_nil]
  simp [run_underlying t.out, Builtin.lenOf, run_sizeOf t.size, Builtin.firstCells, size_sv]
  rw [e5, hrun]
  rfl
theorem al_mask1 {T yT : TypeId} {x y : Operand} {n b : Int} (h : AL P N ops Q s rest ((d, int (n % 2)) :: e) m) (hx : ev e x = some (int n) := by exact rfl) (hy : ev e y = some (int b) := by exact rfl) (hb : b = 1 := by exact rfl) (hd : Nat.blt d N = true := by exact rfl) : AL P N ops Q s (⟨some d, .binOp .and T x y yT, ty, pos, af, none⟩ :: rest) e m := al_mask 1 h hx hy hb (by decide) hd
theorem al_mask3 {T yT : TypeId} {x y : Operand} {n b : Int} (h : AL P N ops Q s rest ((d, int (n % 4)) :: e) m) (hx : ev e x = some (int n) := by exact rfl) (hy : ev e y = some (int b) := by exact rfl) (hb : b = 3 := by exact rfl) (hd : Nat.blt d N = true := by exact rfl) : AL P N ops Q s (⟨some d, .binOp .and T x y yT, ty, pos, af, none⟩ :: rest) e m := al_mask 2 h hx hy hb (by decide) hd
theorem al_mask15 {T yT : TypeId} {x y : Operand} {n b : Int} (h : AL P N ops Q s rest ((d, int (n % 16)) :: e) m) (hx : ev e x = some (int n) := by exact rfl) (hy : ev e y = some (int b) := by exact rfl) (hb : b = 15 := by exact rfl) (hd : Nat.blt d N = true := by exact rfl) : AL P N ops Q s (⟨some d, .binOp .and T x y yT, ty, pos, af, none⟩ :: rest) e m := al_mask 4 h hx hy hb (by decide) hd
theorem al_mask31 {T yT : TypeId} {x y : Operand} {n b : Int} (h : AL P N ops Q s rest ((d, int (n % 32)) :: e) m) (hx : ev e x = some (int n) := by exact rfl) (hy : ev e y = some (int b) := by exact rfl) (hb : b = 31 := by exact rfl) (hd : Nat.blt d N = true := by exact rfl) : AL P N ops Q s (⟨some d, .binOp .and T x y yT, ty, pos, af, none⟩ :: rest) e m := al_mask 5 h hx hy hb (by decide) hd
theorem al_mask63 {T yT : TypeId} {x y : Operand} {n b : Int} (h : AL P N ops Q s rest ((d, int (n % 64)) :: e) m) (hx : ev e x = some (int n) := by exact rfl) (hy : ev e y = some (int b) := by exact rfl) (hb : b = 63 := by exact rfl) (hd : Nat.blt d N = true := by exact rfl) : AL P N ops Q s (⟨some d, .binOp .and T x y yT, ty, pos, af, none⟩ :: rest) e m := al_mask 6 h hx hy hb (by decide) hd
theorem al_mask127 {T yT : TypeId} {x y : Operand} {n b : Int} (h : AL P N ops Q s rest ((d, int (n % 128)) :: e) m) (hx : ev e x = some (int n) := by exact rfl) (hy : ev e y = some (int b) := by exact rfl) (hb : b = 127 := by exact rfl) (hd : Nat.blt d N = true := by exact rfl) : AL P N ops Q s (⟨some d, .binOp .and T x y yT, ty, pos, af, none⟩ :: rest) e m := al_mask 7 h hx hy hb (by decide) hd
theorem al_bit8C {op : BinOp} {T yT : TypeId} {x y : Operand} {a c : UInt8} {B : Int} (h : AL P N ops Q s rest ((d, u8A c) :: e) m) (hx : ev e x = some (u8A a) := by exact rfl) (hy : ev e y = some (.lit (.int .u8 B)) := by exact rfl) (hB : B = ((UInt8.ofNat B.toNat).toNat : Int) := by exact rfl) (hc : bit8 op a (UInt8.ofNat B.toNat) = some c := by exact rfl) (hd : Nat.blt d N = true := by exact rfl) : AL P N ops Q s (⟨some d, .binOp op T x y yT, ty, pos, af, none⟩ :: rest) e m :=
  al_bit8 h hx (by rw [hy]; show some (AV.lit (.int .u8 B)) = some (.lit (.int .u8 ((UInt8.ofNat B.toNat).toNat : Int))); rw [← hB]) hc hd
/-- an element's place in data: a place that is a number -/
theorem al_idxN {S E : TypeId} {k bS : Nat} [t : TyL P S E k bS] {x ix : Operand} {kd : IntKind} {j : Nat} {α : Type} {f : α → AV} {l : List α} {id : Option Value} {u : AV} (h : AL P N ops Q s rest ((d, .pd u) :: e) m) (hx : ev e x = some (.sl k (l.map f) id) := by exact rfl) (hi : ev e ix = some (.lit (.int kd (j : Int))) := by exact rfl) (hlt : j < l.length := by assumption) (hu : u = f l[j] := by exact rfl) (hd : Nat.blt d N = true := by exact rfl) :
    AL P N ops Q s (⟨some d, .indexAddr S x ix, ty, pos, af, none⟩ :: rest) e m := by
  subst hu
  exact al_idxM j hlt h hx hi rfl hd
/-- more steps -/
theorem op2 {G G' : Prop} (h : G') (i : Wr G' → G := by
  intro h
  refine kL ?_
  first
  | (refine kBin ?_; first | exact al_eqBo h.o | exact al_eqA h.o | exact al_mask1 h.o | exact al_mask3 h.o | exact al_mask15 h.o | exact al_mask31 h.o | exact al_mask63 h.o | exact al_mask127 h.o | exact al_bit8 h.o | exact al_bit8C h.o)
  | exact al_idxK h.o | exact al_idxN h.o) : G := i ⟨h⟩
theorem ob4 {G G' : Prop} (h : G') (i : Wr G' → G := by
  intro h
  refine kO ?_
  (apply obl_read []; exact rfl; exact rfl; kernel_rfl; (intro _ _; first | (refine op2 ?_; exact al_nil (ae_got rfl rfl)) | (refine al_on ?_; refine op2 ?_; exact al_nil (ae_got rfl rfl))); exact h.o)) : G := i ⟨h⟩
/-- a guard, a condition that is decided by what is known -/
theorem gdT {op : Op} {dst : Option Nat} {g t : Nat} {b : Bool} {p : Prop} [Decidable p] (h : AL P N ops Q s (⟨dst, op, ty, pos, af, some (g, b)⟩ :: rest) ((t, .lit (.bool true)) :: e) m) (_ht : (ops[g]?).bind (·.dst) = some t := by exact rfl) (hc : lk e t = some (.lit (.bool (decide p))) := by exact rfl) (hp : p := by omega) : AL P N ops Q s (⟨dst, op, ty, pos, af, some (g, b)⟩ :: rest) e m := al_guard t (fun _ => h) (fun hn => absurd hp hn) hc
theorem gdF {op : Op} {dst : Option Nat} {g t : Nat} {b : Bool} {p : Prop} [Decidable p] (h : AL P N ops Q s (⟨dst, op, ty, pos, af, some (g, b)⟩ :: rest) ((t, .lit (.bool false)) :: e) m) (_ht : (ops[g]?).bind (·.dst) = some t := by exact rfl) (hc : lk e t = some (.lit (.bool (decide p))) := by exact rfl) (hp : ¬ p := by omega) : AL P N ops Q s (⟨dst, op, ty, pos, af, some (g, b)⟩ :: rest) e m := al_guard t (fun h => absurd h hp) (fun _ => h) hc
theorem cdT {c : Operand} {x y : Code} {p : Prop} [Decidable p] (h : AC P N x Q s e m) (hc : ev e c = some (.lit (.bool (decide p))) := by exact rfl) (hp : p := by omega) : AC P N (.cond c x y) Q s e m := ac_cond (fun _ => h) (fun hn => absurd hp hn) hc
theorem cdF {c : Operand} {x y : Code} {p : Prop} [Decidable p] (h : AC P N y Q s e m) (hc : ev e c = some (.lit (.bool (decide p))) := by exact rfl) (hp : ¬ p := by omega) : AC P N (.cond c x y) Q s e m := ac_cond (fun h => absurd h hp) (fun _ => h) hc
/-- places alone -/
theorem op3 {G G' : Prop} (h : G') (i : Wr G' → G := by
  intro h
  first | exact al_idxK h.o | exact al_idxN h.o) : G := i ⟨h⟩
theorem ob5 {G G' : Prop} (h : G') (i : Wr G' → G := by
  intro h
  refine kO ?_
  (apply obl_read []; exact rfl; exact rfl; kernel_rfl; (intro _ _; first | (refine op3 ?_; exact al_nil (ae_got rfl rfl)) | (refine al_on ?_; refine op3 ?_; exact al_nil (ae_got rfl rfl))); exact h.o)) : G := i ⟨h⟩
/-! a contract of the older engine's for a method -/
theorem spec_mod {f : FuncId} {g : Nat} {args : List AV} {T : TypeId} {v : AV} {C : List Value} {R : AV → Prop} (hv : ∀ ok w cs, RC ok w v cs → cs = C)
    (h : ∀ ok w cargs, Glob gl ok w → (∀ j, ¬ ok g j) → RVs ok w args cargs → w.heap[g]? = some (.cells C.toArray T (0, 0)) → Ret P f (.pointer (some ⟨g, 0, none⟩) :: cargs) w fun u w' => u = .tuple #[] ∧ ∃ vs v', R v' ∧ Mod g T vs w w' ∧ ∀ ok w, RC ok w v' (fl vs)) : Spec P gl f (ptr g :: args) [.var g T v] fun u m' => u = .tup [] ∧ ∃ v', R v' ∧ m' = [.var g T v'] := Spec.mk fun ok w cargs hS hr => by
  obtain ⟨u, us, rfl, h1, h2⟩ := hr
  rw [RV0.lit h1]
  obtain ⟨cs, hb, hc⟩ := hS.at_ (.var g T v) (by simp)
  rw [hv _ _ _ hc] at hb
  have h3 := h ok w us hS.gl (fun j => hS.own (.var g T v) (by simp) g j rfl) h2 hb
  unfold Ret at h3
  refine Calls.mono h3 fun x w' hx => ?_
  obtain ⟨cv, rfl, rfl, vs, v', hR, hM, hrc⟩ := hx
  have hg1 := hS.lt (.var g T v) (by simp) g rfl
  have hst : Stp ok w ok w' := ⟨hM.size, fun b j u h1 h2 => by
    have hne : b ≠ g := by
      rintro rfl
      exact hS.own (.var b T v) (by simp) b j rfl h2
    exact ⟨(cell_block (hM.keep b (cell_lt h1) hne)).trans h1, h2⟩⟩
  refine ⟨.tup [], [.var g T v'], ok, _, ⟨rfl, v', hR, rfl⟩, rfl, ⟨[], rfl, rfl⟩, ?_⟩
  refine hS.turn (m := [.var g T v]) ⟨hM.os, hM.tape, hM.output, hst, fun b hb hp => hM.keep b hb (fun hbg => hp (.var g T v) (by simp) (by rw [hbg]; rfl)), fun b j _ _ ho => ho, fun b j hb => hS.fresh b j (Nat.le_trans hM.size hb)⟩ ?_ ?_ ?_ (by simp)
  · intro p hp
    obtain rfl := List.mem_singleton.1 hp
    exact ⟨fl vs, hM.var, hrc _ _⟩
  · intro p hp g' hg'
    obtain rfl := List.mem_singleton.1 hp
    exact .inr ⟨.var g T v, by simp, hg'⟩
  · intro p hp b j hbj
    obtain rfl := List.mem_singleton.1 hp
    exact hS.own (.var g T v) (by simp) b j hbj
theorem spec_get {f : FuncId} {g : Nat} {args : List AV} {T : TypeId} {v out : AV} {C : List Value} (hv : ∀ ok w cs, RC ok w v cs → cs = C)
    (h : ∀ ok w cargs, Glob gl ok w → RVs ok w args cargs → w.heap[g]? = some (.cells C.toArray T (0, 0)) → Ret P f (.pointer (some ⟨g, 0, none⟩) :: cargs) w fun u w' => (∀ ok w, RV ok w out u) ∧ Ext w w') : Spec P gl f (ptr g :: args) [.var g T v] fun u m' => u = out ∧ m' = [.var g T v] := Spec.mk fun ok w cargs hS hr => by
  obtain ⟨u, us, rfl, h1, h2⟩ := hr
  rw [RV0.lit h1]
  obtain ⟨cs, hb, hc⟩ := hS.at_ (.var g T v) (by simp)
  rw [hv _ _ _ hc] at hb
  have h3 := h ok w us hS.gl h2 hb
  unfold Ret at h3
  refine Calls.mono h3 fun x w' hx => ?_
  obtain ⟨cv, rfl, h4, h5⟩ := hx
  exact ⟨out, _, ok, cv, ⟨rfl, rfl⟩, rfl, h4 _ _, hS.ext h5⟩
theorem spec_new {f : FuncId} {args : List AV} {T : TypeId} {v : AV} {vs : List Value} (hv : ∀ ok w, RC ok w v (fl vs))
    (h : ∀ ok w cargs, Glob gl ok w → RVs ok w args cargs → Ret P f cargs w fun u w' => ∃ g, u = .pointer (some ⟨g, 0, none⟩) ∧ New g T vs w w') : Spec P gl f args [] fun u m' => ∃ g, u = ptr g ∧ m' = [.var g T v] := Spec.mk fun ok w cargs hS hr => by
  have h3 := h ok w cargs hS.gl hr
  unfold Ret at h3
  refine Calls.mono h3 fun x w' hx => ?_
  obtain ⟨cv, rfl, g, rfl, hN⟩ := hx
  obtain ⟨h4, h5⟩ := St.grow (ok' := fun b j => ok b j ∧ b ≠ g) (new := [.var g T v]) hS hN.ext (fun b j hb => ⟨fun h => h.1, fun h => ⟨h, by have := hN.new; omega⟩⟩) (fun b j hb => ⟨hS.fresh b j (Nat.le_trans hN.ext.size hb), by
    rintro rfl
    have := hN.var
    simp [Array.getElem?_eq_none hb] at this⟩) (fun p hp => by
    obtain rfl := List.mem_singleton.1 hp
    exact ⟨fl vs, hN.var, hv _ _⟩) (fun p hp g' hg' => by
    obtain rfl := List.mem_singleton.1 hp
    injection hg' with hg'
    rw [← hg']
    exact hN.new) (fun p hp b j hb ho => by
    obtain rfl := List.mem_singleton.1 hp
    exact ho.2 hb) (by simp)
  exact ⟨ptr g, [.var g T v], _, _, ⟨g, rfl, rfl⟩, rfl, RVl rfl, h4⟩
end
end Av

namespace Av
open Go Go.RowKit Tw
def reEdge (ord : List Nat) (o : Oper) : Oper := { o with after := o.after.map (fun e => { e with on := ord.idxOf e.on }), guard := o.guard.map fun g => (ord.idxOf g.1, g.2) }
def permL (ord : List Nat) (l : List Oper) : List Oper := ord.map fun i => reEdge ord (l.getD i default)
def permOK (ord : List Nat) (l : List Oper) : Bool := Nat.beq ord.length l.length && (List.range l.length).all (fun i => Nat.blt (ord.idxOf i) l.length && Nat.beq (ord.idxOf (ord.getD i 0)) i && Nat.blt (ord.getD i 0) l.length && Nat.beq (ord.getD (ord.idxOf i) 0) i) &&
  l.all fun o => o.after.toList.all (fun e => Nat.blt e.on l.length) && (match o.guard with | some g => Nat.blt g.1 l.length | none => true)
structure Perm (ord : List Nat) (l : List Oper) : Prop where
  len : ord.length = l.length
  lt : ∀ i, i < l.length → ord.idxOf i < l.length
  back : ∀ i, i < l.length → ord.getD (ord.idxOf i) 0 = i
  olt : ∀ j, j < l.length → ord.getD j 0 < l.length
  forth : ∀ j, j < l.length → ord.idxOf (ord.getD j 0) = j
  edge : ∀ o ∈ l, ∀ e ∈ o.after.toList, e.on < l.length
  gd : ∀ o ∈ l, ∀ g, o.guard = some g → g.1 < l.length
theorem Perm.of {ord : List Nat} {l : List Oper} (h : permOK ord l = true) : Perm ord l := by
  unfold permOK at h
  simp only [Bool.and_eq_true] at h
  obtain ⟨⟨h1, h2⟩, h3⟩ := h
  have h2' : ∀ i, i < l.length → ((Nat.blt (ord.idxOf i) l.length = true ∧ Nat.beq (ord.idxOf (ord.getD i 0)) i = true) ∧ Nat.blt (ord.getD i 0) l.length = true) ∧ Nat.beq (ord.getD (ord.idxOf i) 0) i = true := fun i hi => by
    have := List.all_eq_true.1 h2 i (List.mem_range.2 hi)
    simpa only [Bool.and_eq_true] using this
  have h3' : ∀ o ∈ l, o.after.toList.all (fun e => Nat.blt e.on l.length) = true ∧ (match o.guard with | some g => Nat.blt g.1 l.length | none => true) = true := fun o ho => by
    have := List.all_eq_true.1 h3 o ho
    simpa only [Bool.and_eq_true] using this
  refine ⟨Nat.eq_of_beq_eq_true h1, fun i hi => by simpa [Nat.blt_eq] using (h2' i hi).1.1.1, fun i hi => Nat.eq_of_beq_eq_true (h2' i hi).2, fun i hi => by simpa [Nat.blt_eq] using (h2' i hi).1.2, fun i hi => Nat.eq_of_beq_eq_true (h2' i hi).1.1.2, fun o ho e he => ?_, fun o ho g hg => ?_⟩
  · simpa [Nat.blt_eq] using List.all_eq_true.1 (h3' o ho).1 e he
  · have := (h3' o ho).2
    rw [hg] at this
    simpa [Nat.blt_eq] using this
variable {P : Program} {N : Nat} {Q : Exit → Act → World → Prop} {ord : List Nat} {l : List Oper}
theorem Perm.at_ (h : Perm ord l) {j : Nat} (hj : j < l.length) : (permL ord l)[j]? = some (reEdge ord (l[ord.getD j 0]'(h.olt j hj))) := by
  have hj2 : j < ord.length := by rw [h.len]; exact hj
  have hg : ord.getD j 0 = ord[j] := by simp [List.getD, hj2]
  have hlt := h.olt j hj
  unfold permL
  rw [List.getElem?_map, List.getElem?_eq_getElem hj2, Option.map_some]
  simp only [hg]
  rw [hg] at hlt
  simp [List.getD, hlt]
theorem Perm.length (h : Perm ord l) : (permL ord l).length = l.length := by simp [permL, h.len]
theorem ready_iff {ops : List Oper} {listed : Array Bool} {i : Nat} : i ∈ Region.ready .any ops.toArray listed ↔ ∃ h : i < ops.length, listed.getD i true = false ∧ ∀ e ∈ ops[i].after.toList, (Region.binds .any e = false ∨ listed.getD e.on false = true) := by
  unfold Region.ready
  rw [List.mem_filter, List.mem_range]
  constructor
  · rintro ⟨h1, h2⟩
    have h1' : i < ops.length := by simpa using h1
    refine ⟨h1', ?_⟩
    simp only [List.getElem?_toArray, List.getElem?_eq_getElem h1', Option.map_some, Option.getD_some, Bool.and_eq_true, Bool.not_eq_true'] at h2
    refine ⟨h2.1, fun e he => ?_⟩
    have h3 := h2.2
    rw [← Array.all_toList] at h3
    have := List.all_eq_true.1 h3 e he
    simpa [Bool.or_eq_true] using this
  · rintro ⟨h1, h2, h3⟩
    refine ⟨by simpa using h1, ?_⟩
    simp only [List.getElem?_toArray, List.getElem?_eq_getElem h1, Option.map_some, Option.getD_some, Bool.and_eq_true, Bool.not_eq_true']
    refine ⟨h2, ?_⟩
    rw [← Array.all_toList]
    refine List.all_eq_true.2 fun e he => ?_
    have := h3 e he
    simpa [Bool.or_eq_true] using this
structure Same (ord : List Nat) (n : Nat) (L L' : Array Bool) : Prop where
  s : L.size = n
  s' : L'.size = n
  at_ : ∀ i, i < n → L'.getD (ord.idxOf i) true = L.getD i true
theorem getD_any {L : Array Bool} {i : Nat} (h : i < L.size) (a b : Bool) : L.getD i a = L.getD i b := by simp [Array.getD, h]
theorem Perm.ready (h : Perm ord l) {L L' : Array Bool} (hs : Same ord l.length L L') {i : Nat} (hi : i < l.length) : i ∈ Region.ready .any l.toArray L ↔ ord.idxOf i ∈ Region.ready .any (permL ord l).toArray L' := by
  have hp := h.at_ (h.lt i hi)
  have hb := h.back i hi
  have hlt' : ord.idxOf i < (permL ord l).length := by rw [h.length]; exact h.lt i hi
  have he : (permL ord l)[ord.idxOf i] = reEdge ord l[i] := by
    rw [List.getElem?_eq_getElem hlt'] at hp
    injection hp with hp
    rw [hp]
    simp only [hb]
  rw [ready_iff, ready_iff]
  have hm : l[i] ∈ l := List.getElem_mem hi
  have hon : ∀ e ∈ l[i].after.toList, L'.getD (ord.idxOf e.on) false = L.getD e.on false := fun e h2 => by
    have h3 := h.edge _ hm e h2
    have := hs.at_ e.on h3
    rwa [getD_any (by rw [hs.s']; exact h.lt _ h3) true false, getD_any (by rw [hs.s]; exact h3) true false] at this
  have haft : ((reEdge ord l[i]).after).toList = l[i].after.toList.map fun e => { e with on := ord.idxOf e.on } := by simp [reEdge]
  constructor
  · rintro ⟨_, h1, h2⟩
    refine ⟨hlt', (hs.at_ i hi).trans h1, fun e' he' => ?_⟩
    rw [he, haft] at he'
    obtain ⟨e, hm2, rfl⟩ := List.mem_map.1 he'
    rcases h2 e hm2 with h3 | h3
    · exact .inl h3
    · exact .inr ((hon e hm2).trans h3)
  · rintro ⟨_, h1, h2⟩
    refine ⟨hi, (hs.at_ i hi).symm.trans h1, fun e hm2 => ?_⟩
    have h4 : ({ e with on := ord.idxOf e.on } : Edge) ∈ (permL ord l)[ord.idxOf i].after.toList := by
      rw [he, haft]
      exact List.mem_map.2 ⟨e, hm2, rfl⟩
    rcases h2 _ h4 with h3 | h3
    · exact .inl h3
    · exact .inr ((hon e hm2).symm.trans h3)
theorem Perm.yielded (h : Perm ord l) {g : Nat} (hg : g < l.length) (t : Array Value) : yielded (permL ord l).toArray t (ord.idxOf g) = Go.yielded l.toArray t g := by
  unfold Go.yielded
  have e1 : (permL ord l).toArray[ord.idxOf g]? = some (reEdge ord l[g]) := by
    rw [List.getElem?_toArray, h.at_ (h.lt g hg)]
    simp only [h.back g hg]
  have e2 : l.toArray[g]? = some l[g] := by rw [List.getElem?_toArray, List.getElem?_eq_getElem hg]
  rw [e1, e2]
  rfl
theorem Perm.wpOp (h : Perm ord l) {i : Nat} (hi : i < l.length) {K K' : Act → World → Prop} (hk : ∀ a w, K' a w → K a w) {a : Act} {w : World} (hw : wpOp P (permL ord l).toArray Q (ord.idxOf i) K' a w) : Go.wpOp P l.toArray Q i K a w := by
  unfold Go.wpOp at hw ⊢
  have e1 : (permL ord l).toArray[ord.idxOf i]? = some (reEdge ord l[i]) := by
    rw [List.getElem?_toArray, h.at_ (h.lt i hi)]
    simp only [h.back i hi]
  have e2 : l.toArray[i]? = some l[i] := by rw [List.getElem?_toArray, List.getElem?_eq_getElem hi]
  rw [e1] at hw
  rw [e2]
  simp only at hw ⊢
  have e3 : Region.wanted (reEdge ord l[i]) (Go.yielded (permL ord l).toArray a.tmps) = Region.wanted l[i] (Go.yielded l.toArray a.tmps) := by
    unfold Region.wanted
    have hgd := h.gd l[i] (List.getElem_mem hi)
    cases hg : l[i].guard with
    | none => simp [reEdge, hg]
    | some g =>
      have := h.yielded (hgd g hg) a.tmps
      simp [reEdge, hg, this]
  rw [e3] at hw
  split
  · rename_i hc
    rw [if_pos hc] at hw
    rcases hw with h1 | h1
    · exact .inl (Oper.wp_mono hk h1)
    · exact .inr h1
  · rename_i hc
    rw [if_neg hc] at hw
    exact hk _ _ hw
theorem Perm.wpAny (h : Perm ord l) : ∀ (fuel : Nat) (L L' : Array Bool) (a : Act) (w : World), Same ord l.length L L' → Go.wpAny P .any (permL ord l).toArray Q fuel L' a w → Go.wpAny P .any l.toArray Q fuel L a w := by
  have hnil : ∀ {L L' : Array Bool}, Same ord l.length L L' → (Region.ready .any l.toArray L = [] ↔ Region.ready .any (permL ord l).toArray L' = []) := fun hs => by
    constructor
    · intro he
      rw [List.eq_nil_iff_forall_not_mem]
      intro j hj
      have hjl : j < l.length := by
        obtain ⟨h1, _⟩ := ready_iff.1 hj
        rwa [h.length] at h1
      have h2 := (h.ready hs (h.olt j hjl)).2 (by rw [h.forth j hjl]; exact hj)
      rw [he] at h2
      cases h2
    · intro he
      rw [List.eq_nil_iff_forall_not_mem]
      intro i hi
      obtain ⟨h1, _⟩ := ready_iff.1 hi
      have h2 := (h.ready hs h1).1 hi
      rw [he] at h2
      cases h2
  intro fuel
  induction fuel with
  | zero =>
    intro L L' a w hs hw
    unfold Go.wpAny at hw ⊢
    exact ⟨(hnil hs).2 hw.1, hw.2⟩
  | succ fuel ih =>
    intro L L' a w hs hw
    unfold Go.wpAny at hw ⊢
    refine ⟨fun he => hw.1 ((hnil hs).1 he), fun i hi => ?_⟩
    obtain ⟨h1, _⟩ := ready_iff.1 hi
    refine h.wpOp h1 (fun a' w' hk => ih _ _ a' w' ?_ hk) (hw.2 _ ((h.ready hs h1).1 hi))
    refine ⟨by simp [hs.s], by simp [hs.s'], fun k hk => ?_⟩
    have h3 := hs.at_ k hk
    by_cases hik : i = k
    · subst hik
      simp [Array.getD, hs.s, hs.s', hk, h.lt i hk]
    · have hne : ord.idxOf i ≠ ord.idxOf k := fun he => hik (by rw [← h.back i h1, he, h.back k hk])
      have h4 := h.lt k hk
      simp only [Array.getD, Array.size_setIfInBounds, hs.s, hs.s', hk, h4, dite_true] at h3 ⊢
      rw [Array.getInternal_eq_getElem, Array.getInternal_eq_getElem, Array.getElem_setIfInBounds, Array.getElem_setIfInBounds, if_neg hne, if_neg hik]
      exact h3
/-- the same region, its operations written in the order ord -/
theorem ac_perm [hm : Mixed P] {s : Base} {e : Env} {m : List Piece} {gl : List (Nat × AV)} {id : Nat} (ord : List Nat) {l' : List Oper} (hp : permOK ord l = true) (hl : permL ord l = l') (hg : s.gl = gl) (hc : chkR N l' = true) (ho : Obl P N Q s gl l' l' 0 m e []) : AC P N (.region id l.toArray true) Q s e m := by
  subst hl
  have h := Perm.of hp
  refine AC.mk fun ok w a hS ha => wp_region_any hm.out ?_
  have h1 := any_draw hg hc ho hS ha
  have h2 : (permL ord l).toArray.size = l.toArray.size := by simpa using h.length
  rw [h2] at h1
  exact h.wpAny _ _ _ _ _ ⟨by simp, by simp, fun i hi => by
    have := h.lt i hi
    simp [Array.getD, hi, this]⟩ h1
/-! overlap of data and an own row: none -/
theorem run_overlaps_apart2 {P : Program} (w : World) (tS tR e : TypeId) (ht : P.underlying tS = some (.slice e)) (size : Nat) (hz : ∀ w, (Go.sizeOf e).run P w = .ok size w)
    (a b : Addr) (la ca lb cb : Nat) (hne : a.block ≠ b.block) (tA tB : TypeId) (kA kB : Nat)
    (hsa : w.shape? a.block = some (tA, kA)) (hsb : w.shape? b.block = some (tB, kB)) (hkA : kA ≠ 0)
    (hfa : w.frozen? b = false) (hfe : w.frozen? { block := b.block, off := kB } = false) :
    (Extern.SlicesOverlaps.overlaps #[tS, tS] #[tR] #[.slice (some a) la ca, .slice (some b) lb cb]).run P w = .ok (.bool false) w := by
  have hnb : (a.block != b.block) = true := by simpa using hne
  have hnb' : (a.block == b.block) = false := by simpa using hne
  change Sem.run P (α := Value) (do
    let some t := (#[tS, tS] : Array TypeId)[0]? | stuck "slices.overlaps: no parameter types"
    let .slice elem ← underlying t | stuck "slices.overlaps: slice type expected"
    let size ← sizeOf elem
    match (some a : Option Addr), (some b : Option Addr) with
    | some a, some b =>
      if la = 0 ∨ lb = 0 ∨ size = 0 then pure (Value.bool false)
      else if a.block != b.block && (← frozen a) && (← frozen b) then unsupported .addressObserved
      else do
        if a.block != b.block then do
          noView a; noView b
          if ← mayBeOne a b then return Value.bool ((← choose (.extern "sameAddr.stringBytes" 2)) == 1)
        pure (Value.bool (a.block == b.block && a.off < b.off + lb * size && b.off < a.off + la * size))
    | _, _ => pure (Value.bool false)) w = _
  by_cases h0 : la = 0 ∨ lb = 0 ∨ size = 0
  · simp [run_underlying ht, hz, h0]
  · cases kA with
    | zero => exact absurd rfl hkA
    | succ kA =>
      cases hq : w.frozen? a <;> cases hq2 : w.frozen? { block := a.block, off := kA + 1 } <;>
      simp [run_underlying ht, hz, h0, hnb, hnb', frozen, noView, viewAt, mayBeOne, stringish, shape, Sem.run, hsa, hsb, hfa, hfe, hq, hq2]
theorem run_overlaps_zero {P : Program} (w : World) (tS tR e : TypeId) (ht : P.underlying tS = some (.slice e)) (size : Nat) (hz : ∀ w, (Go.sizeOf e).run P w = .ok size w) (a b : Addr) (ca lb cb : Nat) :
    (Extern.SlicesOverlaps.overlaps #[tS, tS] #[tR] #[.slice (some a) 0 ca, .slice (some b) lb cb]).run P w = .ok (.bool false) w := by
  change Sem.run P (α := Value) (do
    let some t := (#[tS, tS] : Array TypeId)[0]? | stuck "slices.overlaps: no parameter types"
    let .slice elem ← underlying t | stuck "slices.overlaps: slice type expected"
    let size ← sizeOf elem
    match (some a : Option Addr), (some b : Option Addr) with
    | some a, some b =>
      if 0 = 0 ∨ lb = 0 ∨ size = 0 then pure (Value.bool false)
      else if a.block != b.block && (← frozen a) && (← frozen b) then unsupported .addressObserved
      else do
        if a.block != b.block then do
          noView a; noView b
          if ← mayBeOne a b then return Value.bool ((← choose (.extern "sameAddr.stringBytes" 2)) == 1)
        pure (Value.bool (a.block == b.block && a.off < b.off + lb * size && b.off < a.off + 0 * size))
    | _, _ => pure (Value.bool false)) w = _
  simp [run_underlying ht, hz]
theorem overlaps_runD {s : Base} {ok : Ok} {m : List Piece} {w : World} {g o n cc c k : Nat} {E tS : TypeId} {b : Nat} {xs ys : List AV} {id : Option Value} {cs : List Value} [t : TyE P tS E k b] (tR : TypeId) (hS : St s ok m w) (hm : Piece.buf g E k xs c ∈ m) (hv : RVs ok w [.sl k ys id, .lit (.slice (some ⟨g, o, none⟩) n cc)] cs) :
    (Extern.SlicesOverlaps.overlaps #[tS, tS] #[tR] cs.toArray).run P w = .ok (.bool false) w := by
  obtain ⟨u1, us, rfl, h1, u2, us2, rfl, h2, rfl⟩ := hv
  obtain rfl := RV0.lit h2
  obtain ⟨A, c2, rfl, _, _, _, h5, _⟩ := sl_run (show RV ok w (.sl k ys id) u1 from h1)
  obtain ⟨cs1, cs2, a1, a2, a3, a4, a5⟩ := hS.at_ _ hm
  have hk : 0 < k := Nat.le_of_ble_eq_true t.k0
  rcases Nat.eq_zero_or_pos ys.length with h0 | h0
  · rw [h0]
    cases A with
    | none =>
      show Sem.run P (α := Value) (do
        let some t := (#[tS, tS] : Array TypeId)[0]? | stuck "slices.overlaps: no parameter types"
        let .slice elem ← underlying t | stuck "slices.overlaps: slice type expected"
        let size ← sizeOf elem
        pure (Value.bool false)) w = _
      simp [run_underlying t.l.out, run_sizeOf t.l.size]
    | some a => exact run_overlaps_zero w tS tR E t.l.out k (fun _ => run_sizeOf t.l.size) a ⟨g, o, none⟩ c2 n cc
  · obtain ⟨b2, o2, es, rfl, e1, e2, e3⟩ := h5 h0
    have hl : 0 < es.length := by rw [e1]; exact Nat.mul_pos h0 hk
    have h6 := e2 0 es[0] (by simp [hl])
    have hne : b2 ≠ g := by
      rintro rfl
      exact hS.own _ hm b2 (o2 + 0) rfl h6.2
    have h7 := h6.1
    unfold World.cell? at h7
    cases hb : w.heap[b2]? with
    | none => simp [hb] at h7
    | some ob =>
      cases ob with
      | cells C T fr =>
        have hC : C.size ≠ 0 := by
          intro h8
          simp [hb, Array.eq_empty_of_size_eq_zero h8] at h7
        exact run_overlaps_apart2 w tS tR E t.l.out k (fun _ => run_sizeOf t.l.size) ⟨b2, o2, none⟩ ⟨g, o, none⟩ ys.length c2 n cc hne T E C.size (cs1.length + cs2.length) (by simp [World.shape?, hb]) (by simp [World.shape?, a1]) hC (by simp [World.frozen?, a1]) (by simp [World.frozen?, a1])
      | _ => simp [hb] at h7
end Av
