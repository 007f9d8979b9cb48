/- The engine: values by what they hold; memory. -/
import Derived.Laws.IdiomStrings
import Derived.ArgAppend
import Derived.Test.YtkijoddconipoaaGreatDoorP1
namespace Av
open Go Go.RowKit Tw

/-- which cells are data: nobody writes them any more -/
abbrev Ok := Nat → Nat → Prop

/-- a value by what it holds: one cell; a struct or an array (of n cells, by its parts); data's slice (of elements of k cells; maybe the value itself); a pointer to data; a call's results -/
inductive AV where
  | lit (v : Value)
  | agg (n : Nat) (ps : List AV)
  | sl (k : Nat) (xs : List AV) (id : Option Value)
  | pd (v : AV)
  | tup (vs : List AV)
  deriving Inhabited

def AV.size : AV → Nat
  | .agg n _ => n
  | _ => 1
def AV.isAgg : AV → Bool
  | .agg _ _ => true
  | _ => false

/-- the cells es lie at b, o and are data -/
def At (ok : Ok) (w : World) (b o : Nat) (es : List Value) : Prop := ∀ j v, es[j]? = some v → w.cell? ⟨b, o + j, none⟩ = some v ∧ ok b (o + j)

mutual
def RC (ok : Ok) (w : World) : AV → List Value → Prop
  | .lit v, cs => cs = [v] ∧ v.oneCell' = true
  | .agg n ps, cs => cs.length = n ∧ RCs ok w ps cs
  | .sl k xs id, cs => ∃ A c, cs = [.slice A xs.length c] ∧ (∀ u, id = some u → u = .slice A xs.length c) ∧ xs.length ≤ c ∧ c ≤ maxLen ∧
      (0 < xs.length → ∃ b o es, A = some ⟨b, o, none⟩ ∧ es.length = xs.length * k ∧ At ok w b o es ∧ RCs ok w xs es) ∧ ∀ x ∈ xs, x.size = k
  | .pd v, cs => ∃ b o es, cs = [.pointer (some ⟨b, o, none⟩)] ∧ At ok w b o es ∧ RC ok w v es
  | .tup _, _ => False
def RCs (ok : Ok) (w : World) : List AV → List Value → Prop
  | [], cs => cs = []
  | p :: ps, cs => ∃ c1 c2, cs = c1 ++ c2 ∧ RC ok w p c1 ∧ RCs ok w ps c2
end
/-- a value in a slot -/
def RV0 (ok : Ok) (w : World) (a : AV) (v : Value) : Prop := RC ok w a v.cells.toList ∧ a.isAgg = isAggV v
def RVs (ok : Ok) (w : World) : List AV → List Value → Prop
  | [], vs => vs = []
  | a :: as, vs => ∃ u us, vs = u :: us ∧ RV0 ok w a u ∧ RVs ok w as us
def RV (ok : Ok) (w : World) : AV → Value → Prop
  | .tup as, v => ∃ vs : List Value, v = .tuple vs.toArray ∧ RVs ok w as vs
  | a, v => RV0 ok w a v

/-- data are carried from w to w' -/
structure Stp (ok : Ok) (w : World) (ok' : Ok) (w' : World) : Prop where
  size : w.heap.size ≤ w'.heap.size
  keep : ∀ b j v, w.cell? ⟨b, j, none⟩ = some v → ok b j → w'.cell? ⟨b, j, none⟩ = some v ∧ ok' b j
theorem Stp.refl (ok : Ok) (w : World) : Stp ok w ok w := ⟨Nat.le_refl _, fun _ _ _ h k => ⟨h, k⟩⟩
theorem Stp.trans {ok ok1 ok2 : Ok} {w w1 w2 : World} (h : Stp ok w ok1 w1) (k : Stp ok1 w1 ok2 w2) : Stp ok w ok2 w2 :=
  ⟨Nat.le_trans h.size k.size, fun b j v h1 h2 => let ⟨a, c⟩ := h.keep b j v h1 h2; k.keep b j v a c⟩
theorem At.stp {ok ok' : Ok} {w w' : World} {b o : Nat} {es : List Value} (h : At ok w b o es) (e : Stp ok w ok' w') : At ok' w' b o es := fun j v hj => let ⟨a, c⟩ := h j v hj; e.keep _ _ _ a c

section
variable {ok ok' : Ok} {w w' : World}
mutual
theorem RC.stp (e : Stp ok w ok' w') : ∀ {a : AV} {cs : List Value}, RC ok w a cs → RC ok' w' a cs
  | .lit v, cs, h => by rw [RC] at h ⊢; exact h
  | .agg n ps, cs, h => by rw [RC] at h ⊢; exact ⟨h.1, RCs.stp e h.2⟩
  | .sl k xs id, cs, h => by
    rw [RC] at h ⊢
    obtain ⟨A, c, h1, h2, h3, h4, h5, h6⟩ := h
    exact ⟨A, c, h1, h2, h3, h4, fun hn => let ⟨b, o, es, g1, g2, g3, g4⟩ := h5 hn; ⟨b, o, es, g1, g2, g3.stp e, RCs.stp e g4⟩, h6⟩
  | .pd v, cs, h => by
    rw [RC] at h ⊢
    obtain ⟨b, o, es, g1, g2, g3⟩ := h
    exact ⟨b, o, es, g1, g2.stp e, RC.stp e g3⟩
  | .tup _, cs, h => by rw [RC] at h; exact h.elim
theorem RCs.stp (e : Stp ok w ok' w') : ∀ {as : List AV} {cs : List Value}, RCs ok w as cs → RCs ok' w' as cs
  | [], cs, h => by rw [RCs] at h ⊢; exact h
  | a :: as, cs, h => by
    rw [RCs] at h ⊢
    obtain ⟨c1, c2, h1, h2, h3⟩ := h
    exact ⟨c1, c2, h1, RC.stp e h2, RCs.stp e h3⟩
end
theorem RV0.stp (e : Stp ok w ok' w') {a : AV} {v : Value} (h : RV0 ok w a v) : RV0 ok' w' a v := ⟨h.1.stp e, h.2⟩
theorem RVs.stp (e : Stp ok w ok' w') : ∀ {as : List AV} {vs : List Value}, RVs ok w as vs → RVs ok' w' as vs
  | [], _, h => h
  | _ :: _, _, ⟨u, us, h1, h2, h3⟩ => ⟨u, us, h1, h2.stp e, RVs.stp e h3⟩
theorem RV.stp (e : Stp ok w ok' w') {a : AV} {v : Value} (h : RV ok w a v) : RV ok' w' a v := by
  cases a <;> first | exact RV0.stp e h | skip
  obtain ⟨vs, h1, h2⟩ := h
  exact ⟨vs, h1, h2.stp e⟩

theorem RC.len {a : AV} {cs : List Value} (h : RC ok w a cs) : cs.length = a.size := by
  cases a <;> rw [RC] at h
  · rw [h.1]; rfl
  · exact h.1
  · obtain ⟨A, c, h1, _⟩ := h; rw [h1]; rfl
  · obtain ⟨b, o, es, h1, _⟩ := h; rw [h1]; rfl
  · exact h.elim
mutual
theorem RC.one : ∀ {a : AV} {cs : List Value}, RC ok w a cs → ∀ v ∈ cs, v.oneCell' = true
  | .lit v, cs, h => by rw [RC] at h; obtain ⟨rfl, h⟩ := h; simpa using h
  | .agg n ps, cs, h => by rw [RC] at h; exact RCs.one h.2
  | .sl k xs id, cs, h => by rw [RC] at h; obtain ⟨A, c, rfl, _⟩ := h; simp [Value.oneCell']
  | .pd v, cs, h => by rw [RC] at h; obtain ⟨b, o, es, rfl, _⟩ := h; simp [Value.oneCell']
  | .tup _, cs, h => by rw [RC] at h; exact h.elim
theorem RCs.one : ∀ {as : List AV} {cs : List Value}, RCs ok w as cs → ∀ v ∈ cs, v.oneCell' = true
  | [], cs, h => by rw [RCs] at h; subst h; simp
  | a :: as, cs, h => by
    rw [RCs] at h
    obtain ⟨c1, c2, rfl, h2, h3⟩ := h
    intro v hv
    rcases List.mem_append.1 hv with hv | hv
    · exact RC.one h2 v hv
    · exact RCs.one h3 v hv
end
theorem RCs.append : ∀ {as bs : List AV} {c d : List Value}, RCs ok w as c → RCs ok w bs d → RCs ok w (as ++ bs) (c ++ d)
  | [], bs, c, d, h, k => by rw [RCs] at h; subst h; exact k
  | a :: as, bs, c, d, h, k => by
    rw [RCs] at h
    obtain ⟨c1, c2, rfl, h2, h3⟩ := h
    rw [List.cons_append, RCs, List.append_assoc]
    exact ⟨c1, _, rfl, h2, RCs.append h3 k⟩
theorem RCs.split : ∀ {as bs : List AV} {cs : List Value}, RCs ok w (as ++ bs) cs → ∃ c d, cs = c ++ d ∧ RCs ok w as c ∧ RCs ok w bs d
  | [], bs, cs, h => ⟨[], cs, rfl, by rw [RCs], h⟩
  | a :: as, bs, cs, h => by
    rw [List.cons_append, RCs] at h
    obtain ⟨c1, c2, rfl, h2, h3⟩ := h
    obtain ⟨c, d, rfl, g1, g2⟩ := RCs.split h3
    exact ⟨c1 ++ c, d, by simp, by rw [RCs]; exact ⟨c1, c, rfl, h2, g1⟩, g2⟩
theorem RCs.len {k : Nat} : ∀ {as : List AV} {cs : List Value}, RCs ok w as cs → (∀ a ∈ as, a.size = k) → cs.length = as.length * k
  | [], cs, h, _ => by rw [RCs] at h; subst h; simp
  | a :: as, cs, h, hk => by
    rw [RCs] at h
    obtain ⟨c1, c2, rfl, h2, h3⟩ := h
    rw [List.length_append, h2.len, hk a (by simp), RCs.len h3 (fun x hx => hk x (by simp [hx])), List.length_cons, Nat.add_mul]
    omega
/-- the ith of parts of k cells each -/
theorem RCs.at_ {k i : Nat} {as : List AV} {cs : List Value} (h : RCs ok w as cs) (hk : ∀ a ∈ as, a.size = k) (hi : i < as.length) : ∃ x c y, cs = x ++ c ++ y ∧ x.length = i * k ∧ c.length = k ∧ RC ok w as[i] c := by
  have he : as = as.take i ++ (as[i] :: as.drop (i + 1)) := by
    rw [← List.drop_eq_getElem_cons hi, List.take_append_drop]
  rw [he] at h
  obtain ⟨x, d, rfl, h1, h2⟩ := h.split
  rw [RCs] at h2
  obtain ⟨c, y, rfl, h3, _⟩ := h2
  refine ⟨x, c, y, by simp, ?_, by rw [h3.len, hk _ (List.getElem_mem hi)], h3⟩
  rw [h1.len (fun a ha => hk a (List.mem_of_mem_take ha))]
  simp [Nat.min_eq_left (Nat.le_of_lt hi)]

/-! one value -/
theorem cells_of_not {v : Value} (h : isAggV v = false) : v.cells = #[v] := by cases v <;> first | rfl | simp [isAggV] at h
theorem agg_of {v : Value} (h : isAggV v = true) : v = .agg v.cells := by cases v <;> first | rfl | simp [isAggV] at h
theorem isAggV_of_one {v : Value} (h : v.oneCell' = true) : isAggV v = false := by cases v <;> first | rfl | simp [Value.oneCell'] at h
theorem RV0.lit {u v : Value} (h : RV0 ok w (.lit u) v) : v = u := by
  obtain ⟨h1, h2⟩ := h
  rw [RC] at h1
  have := cells_of_not h2.symm
  rw [this] at h1
  simpa using h1.1
theorem RV.lit {u v : Value} (h : RV ok w (.lit u) v) : v = u := RV0.lit h
theorem RV0.of_lit {v : Value} (h : v.oneCell' = true) : RV0 ok w (.lit v) v := by
  have h1 := isAggV_of_one h
  refine ⟨?_, h1.symm⟩
  rw [RC, cells_of_not h1]
  exact ⟨rfl, h⟩
theorem RV.of0 {a : AV} {v : Value} (h : RV0 ok w a v) : RV ok w a v := by
  cases a <;> first | exact h | skip
  exact (by have := h.1; rw [RC] at this; exact this.elim)
theorem RV.to0 {a : AV} {v : Value} (h : RV ok w a v) (ha : ∀ vs, a ≠ .tup vs) : RV0 ok w a v := by
  cases a <;> first | exact h | exact absurd rfl (ha _)
/-- a value out of its cells -/
def mk (a : Bool) (cs : List Value) : Value := bif a then .agg cs.toArray else cs.headD undef
theorem RV0.mk {a : AV} {cs : List Value} (h : RC ok w a cs) : RV0 ok w a (mk a.isAgg cs) := by
  cases a
  case agg n ps => exact ⟨h, rfl⟩
  case tup => rw [RC] at h; exact h.elim
  all_goals
    have hl := h.len
    obtain ⟨v, rfl⟩ := List.length_eq_one_iff.1 hl
    have h1 := isAggV_of_one (h.one v (by simp))
    refine ⟨?_, h1.symm⟩
    show RC ok w _ v.cells.toList
    rw [cells_of_not h1]
    exact h
theorem RVs.ofLits : ∀ {vs : List Value}, (∀ v ∈ vs, v.oneCell' = true) → RVs ok w (vs.map .lit) vs
  | [], _ => rfl
  | v :: vs, h => ⟨v, vs, rfl, RV0.of_lit (h v (by simp)), RVs.ofLits fun u hu => h u (by simp [hu])⟩
theorem RVs.length : ∀ {as : List AV} {vs : List Value}, RVs ok w as vs → vs.length = as.length
  | [], _, h => by rw [show _ = [] from h]; rfl
  | _ :: _, _, ⟨_, _, h1, _, h3⟩ => by rw [h1]; simp [RVs.length h3]
end

/-! ### Places within a value -/
def findP : List AV → Nat → Nat → Option (Nat × AV × Nat)
  | [], _, _ => none
  | p :: ps, i, o => bif Nat.ble p.size o then findP ps (i + 1) (o - p.size) else some (i, p, o)
def getV (a : Bool) (k : Nat) : Nat → AV → Nat → Option AV
  | 0, _, _ => none
  | f + 1, v, o => bif Nat.beq o 0 && Nat.beq v.size k && (v.isAgg == a) then some v else (match v with
    | .agg _ ps => (match findP ps 0 o with
      | some (_, p, o') => getV a k f p o'
      | none => none)
    | _ => none)
def putV (u : AV) : Nat → AV → Nat → Option AV
  | 0, _, _ => none
  | f + 1, v, o => bif Nat.beq o 0 && Nat.beq v.size u.size && (v.isAgg == u.isAgg) then some u else (match v with
    | .agg n ps => (match findP ps 0 o with
      | some (i, p, o') => (match putV u f p o' with
        | some p' => some (.agg n (ps.set i p'))
        | none => none)
      | none => none)
    | _ => none)
section
variable {ok : Ok} {w : World}
theorem findP_spec : ∀ {ps : List AV} {i o j o' : Nat} {p : AV} {cs : List Value}, findP ps i o = some (j, p, o') → RCs ok w ps cs →
    ∃ x c y, cs = x ++ c ++ y ∧ x.length + o' = o ∧ RC ok w p c ∧ o' < p.size ∧ i ≤ j ∧ ∀ p' c', RC ok w p' c' → RCs ok w (ps.set (j - i) p') (x ++ c' ++ y)
  | [], i, o, j, o', p, cs, h, _ => by simp [findP] at h
  | q :: ps, i, o, j, o', p, cs, h, hc => by
    rw [RCs] at hc
    obtain ⟨c1, c2, rfl, h1, h2⟩ := hc
    unfold findP at h
    cases hb : Nat.ble q.size o with
    | true =>
      simp only [hb, cond_true] at h
      obtain ⟨x, c, y, rfl, e1, e2, e3, e4, e5⟩ := findP_spec h h2
      have hle := Nat.le_of_ble_eq_true hb
      refine ⟨c1 ++ x, c, y, by simp, ?_, e2, e3, by omega, fun p' c' hp => ?_⟩
      · rw [List.length_append, h1.len]; omega
      · rw [show j - i = (j - (i + 1)) + 1 by omega, List.set_cons_succ, RCs]
        exact ⟨c1, _, by simp, h1, e5 p' c' hp⟩
    | false =>
      simp only [hb, cond_false] at h
      injection h with h
      injection h with ha h
      injection h with h3 h4
      subst ha h3 h4
      have hlt : o < q.size := by
        rcases Nat.lt_or_ge o q.size with h | h
        · exact h
        · rw [Nat.ble_eq_true_of_le h] at hb; cases hb
      refine ⟨[], c1, c2, by simp, by simp, h1, hlt, Nat.le_refl _, fun p' c' hp => ?_⟩
      rw [Nat.sub_self, List.set_cons_zero, RCs]
      exact ⟨c', c2, by simp, hp, h2⟩
theorem getV_spec {a : Bool} {k : Nat} : ∀ {f : Nat} {v u : AV} {o : Nat} {cs : List Value}, getV a k f v o = some u → RC ok w v cs →
    ∃ x c y, cs = x ++ c ++ y ∧ x.length = o ∧ c.length = k ∧ RC ok w u c ∧ u.isAgg = a
  | 0, v, u, o, cs, h, _ => by simp [getV] at h
  | f + 1, v, u, o, cs, h, hc => by
    unfold getV at h
    generalize hb : (Nat.beq o 0 && Nat.beq v.size k && (v.isAgg == a)) = b at h
    cases b with
    | true =>
      simp only [Bool.and_eq_true, beq_iff_eq] at hb
      obtain ⟨⟨h1, h2⟩, h3⟩ := hb
      have h1 := Nat.eq_of_beq_eq_true h1
      have h2 := Nat.eq_of_beq_eq_true h2
      simp only [cond_true] at h
      injection h with h
      subst h h1
      exact ⟨[], cs, [], by simp, rfl, by rw [hc.len, h2], hc, h3⟩
    | false =>
      simp only [cond_false] at h
      split at h
      · rename_i n ps
        rw [RC] at hc
        split at h
        · rename_i j p o' hf
          obtain ⟨x, c, y, rfl, e1, e2, _, _, _⟩ := findP_spec hf hc.2
          obtain ⟨x', c', y', rfl, g1, g2, g3, g4⟩ := getV_spec h e2
          exact ⟨x ++ x', c', y' ++ y, by simp, by simp; omega, g2, g3, g4⟩
        · cases h
      · cases h
theorem putV_spec {u : AV} {cu : List Value} (hu : RC ok w u cu) : ∀ {f : Nat} {v v' : AV} {o : Nat} {cs : List Value}, putV u f v o = some v' → RC ok w v cs →
    ∃ x c y, cs = x ++ c ++ y ∧ x.length = o ∧ c.length = u.size ∧ RC ok w v' (x ++ cu ++ y) ∧ v'.size = v.size ∧ v'.isAgg = v.isAgg
  | 0, v, v', o, cs, h, _ => by simp [putV] at h
  | f + 1, v, v', o, cs, h, hc => by
    unfold putV at h
    generalize hb : (Nat.beq o 0 && Nat.beq v.size u.size && (v.isAgg == u.isAgg)) = b at h
    cases b with
    | true =>
      simp only [Bool.and_eq_true, beq_iff_eq] at hb
      obtain ⟨⟨h1, h2⟩, h3⟩ := hb
      have h1 := Nat.eq_of_beq_eq_true h1
      have h2 := Nat.eq_of_beq_eq_true h2
      simp only [cond_true] at h
      injection h with h
      subst h h1
      exact ⟨[], cs, [], by simp, rfl, by rw [hc.len, h2], by simpa using hu, h2.symm, h3.symm⟩
    | false =>
      simp only [cond_false] at h
      split at h
      · rename_i n ps
        rw [RC] at hc
        split at h
        · rename_i j p o' hf
          obtain ⟨x, c, y, rfl, e1, e2, _, _, e5⟩ := findP_spec hf hc.2
          split at h
          · rename_i p' hp
            injection h with h
            subst h
            obtain ⟨x', c', y', rfl, g1, g2, g3, g4, g5⟩ := putV_spec hu hp e2
            have := e5 p' _ g3
            refine ⟨x ++ x', c', y' ++ y, by simp, by simp; omega, g2, ?_, rfl, rfl⟩
            rw [RC]
            refine ⟨?_, by simpa using this⟩
            have h1 := hc.1
            have h2 := hu.len
            simp at h1 ⊢
            omega
          · cases h
        · cases h
      · cases h
end

/-! ### What a call owns -/
inductive Piece where
  | var (g : Nat) (T : TypeId) (v : AV)
  | tail (E : TypeId) (k : Nat) (v : Value)
  | buf (g : Nat) (E : TypeId) (k : Nat) (xs : List AV) (c : Nat)
  | obj (g : Nat) (o : Obj)
def tailBlk : Value → Option Nat
  | .slice (some a) n c => bif Nat.beq n c then none else some a.block
  | _ => none
def Piece.blk : Piece → Option Nat
  | .var g _ _ => some g
  | .tail _ _ v => tailBlk v
  | .buf g _ _ _ _ => some g
  | .obj g _ => some g
def Obj.notCells : Obj → Bool
  | .cells .. => false
  | _ => true
def Piece.at_ (ok : Ok) (w : World) : Piece → Prop
  | .var g T v => ∃ cs : List Value, w.heap[g]? = some (.cells cs.toArray T (0, 0)) ∧ RC ok w v cs
  | .tail E k v => (∃ A n, v = .slice A n n) ∨ ∃ g n cap cur fr, v = .slice (some ⟨g, 0, none⟩) n cap ∧ w.heap[g]? = some (.cells cur E fr) ∧ n < cap ∧ cap ≤ maxLen ∧ cur.size = cap * k ∧ (fr.2 = 0 ∨ cur.size ≤ fr.1)
  | .buf g E k xs c => ∃ cs1 cs2 : List Value, w.heap[g]? = some (.cells (cs1 ++ cs2).toArray E (0, 0)) ∧ RCs ok w xs cs1 ∧ (∀ x ∈ xs, x.size = k) ∧ cs1.length + cs2.length = c * k ∧ c ≤ maxLen
  | .obj g o => w.heap[g]? = some o ∧ Obj.notCells o = true
/-- the cells that may be written -/
def Piece.owns : Piece → Nat → Nat → Prop
  | .var g _ _, b, _ => b = g
  | .tail _ k v, b, j => ∃ a n c, v = .slice (some a) n c ∧ n ≠ c ∧ b = a.block ∧ n * k ≤ j
  | .buf g _ _ _ _, b, _ => b = g
  | .obj g _, b, _ => b = g
theorem Piece.owns_blk {p : Piece} {b j : Nat} (h : p.owns b j) : p.blk = some b := by
  cases p with
  | var g T v => exact congrArg some h.symm
  | tail E k v =>
    obtain ⟨a, n, c, rfl, hne, rfl, _⟩ := h
    simp [Piece.blk, tailBlk, beq_ff hne]
  | buf g E k xs c => exact congrArg some h.symm
  | obj g o => exact congrArg some h.symm

structure Base where
  w : World
  ok : Ok
  md : Nat → Prop
  gl : List (Nat × AV)
/-- the variables that never turn hold what they hold -/
def Glob (gl : List (Nat × AV)) (ok : Ok) (w : World) : Prop := ∀ p ∈ gl, ∃ cs, At ok w p.1 0 cs ∧ RC ok w p.2 cs
theorem Glob.stp {gl : List (Nat × AV)} {ok ok' : Ok} {w w' : World} (h : Glob gl ok w) (e : Stp ok w ok' w') : Glob gl ok' w' := fun p hp => let ⟨cs, a, b⟩ := h p hp; ⟨cs, a.stp e, b.stp e⟩
structure St (s : Base) (ok : Ok) (m : List Piece) (w : World) : Prop where
  os : w.os = s.w.os
  tape : w.tape = s.w.tape
  output : w.output = s.w.output
  stp : Stp s.ok s.w ok w
  old : ∀ b, b < s.w.heap.size → ¬ s.md b → w.heap[b]? = s.w.heap[b]?
  sub : ∀ b j, b < s.w.heap.size → ¬ s.md b → ok b j → s.ok b j
  fresh : ∀ b j, w.heap.size ≤ b → ok b j
  at_ : ∀ p ∈ m, p.at_ ok w
  lt : ∀ p ∈ m, ∀ g, p.blk = some g → g < w.heap.size ∧ (s.w.heap.size ≤ g ∨ s.md g)
  own : ∀ p ∈ m, ∀ b j, p.owns b j → ¬ ok b j
  dis : m.Pairwise fun p q => ∀ g, p.blk = some g → q.blk ≠ some g
  gl : Glob s.gl ok w

theorem Piece.keep {ok ok' : Ok} {w w' : World} {p : Piece} (h : p.at_ ok w) (e : Stp ok w ok' w') (hb : ∀ g, p.blk = some g → w'.heap[g]? = w.heap[g]?) : p.at_ ok' w' := by
  cases p with
  | var g T v =>
    obtain ⟨cs, h1, h2⟩ := h
    exact ⟨cs, (hb g rfl).trans h1, h2.stp e⟩
  | tail E k v =>
    rcases h with h | ⟨g, n, cap, cur, fr, rfl, h1, h2, h3, h4⟩
    · exact .inl h
    · exact .inr ⟨g, n, cap, cur, fr, rfl, (hb g (by simp [Piece.blk, tailBlk, beq_ff (Nat.ne_of_lt h2)])).trans h1, h2, h3, h4⟩
  | buf g E k xs c =>
    obtain ⟨cs1, cs2, h1, h2, h3⟩ := h
    exact ⟨cs1, cs2, (hb g rfl).trans h1, h2.stp e, h3⟩
  | obj g o => exact ⟨(hb g rfl).trans h.1, h.2⟩
theorem Piece.lt_of {ok : Ok} {w : World} {p : Piece} (h : p.at_ ok w) {g : Nat} (hg : p.blk = some g) : g < w.heap.size := by
  have key : ∀ {g : Nat} {o : Obj}, w.heap[g]? = some o → g < w.heap.size := fun h => (Array.getElem?_eq_some_iff.1 h).1
  cases p with
  | var g' T v =>
    injection hg with hg
    subst hg
    obtain ⟨cs, h1, _⟩ := h
    exact key h1
  | tail E k v =>
    rcases h with ⟨A, n, rfl⟩ | ⟨g', n, cap, cur, fr, rfl, h1, h2, _⟩
    · cases A <;> simp [Piece.blk, tailBlk] at hg
    · simp [Piece.blk, tailBlk, beq_ff (Nat.ne_of_lt h2)] at hg
      subst hg
      exact key h1
  | buf g' E k xs c =>
    injection hg with hg
    subst hg
    obtain ⟨cs1, cs2, h1, _⟩ := h
    exact key h1
  | obj g' o =>
    injection hg with hg
    subst hg
    exact key h.1

section
variable {s : Base} {ok ok' : Ok} {m : List Piece} {w w' : World}
/-- what may become of the world: blocks of pieces may turn, all else grows alone -/
structure Turn (ok : Ok) (m : List Piece) (w : World) (ok' : Ok) (w' : World) : Prop where
  os : w'.os = w.os
  tape : w'.tape = w.tape
  output : w'.output = w.output
  stp : Stp ok w ok' w'
  blk : ∀ b, b < w.heap.size → (∀ p ∈ m, p.blk ≠ some b) → w'.heap[b]? = w.heap[b]?
  sub : ∀ b j, b < w.heap.size → (∀ p ∈ m, p.blk ≠ some b) → ok' b j → ok b j
  fresh : ∀ b j, w'.heap.size ≤ b → ok' b j
theorem St.turn {m' : List Piece} (h : St s ok m w) (e : Turn ok m w ok' w') (hat : ∀ p ∈ m', p.at_ ok' w') (hlt : ∀ p ∈ m', ∀ g, p.blk = some g → w.heap.size ≤ g ∨ ∃ q ∈ m, q.blk = some g)
    (hown : ∀ p ∈ m', ∀ b j, p.owns b j → ¬ ok' b j) (hdis : m'.Pairwise fun p q => ∀ g, p.blk = some g → q.blk ≠ some g) : St s ok' m' w' where
  os := e.os.trans h.os
  tape := e.tape.trans h.tape
  output := e.output.trans h.output
  stp := h.stp.trans e.stp
  old b hb hm := (e.blk b (Nat.lt_of_lt_of_le hb h.stp.size) fun p hp hg => by
    rcases (h.lt p hp b hg).2 with h1 | h1
    · omega
    · exact hm h1).trans (h.old b hb hm)
  sub b j hb hm ho := h.sub b j hb hm (e.sub b j (Nat.lt_of_lt_of_le hb h.stp.size) (fun p hp hg => by
    rcases (h.lt p hp b hg).2 with h1 | h1
    · omega
    · exact hm h1) ho)
  fresh := e.fresh
  at_ := hat
  lt p hp g hg := ⟨Piece.lt_of (hat p hp) hg, by
    rcases hlt p hp g hg with h1 | ⟨q, hq, h1⟩
    · exact .inl (Nat.le_trans h.stp.size h1)
    · exact (h.lt q hq g h1).2⟩
  own := hown
  dis := hdis
  gl := h.gl.stp e.stp
theorem cell_lt {b j : Nat} {v : Value} (h : w.cell? ⟨b, j, none⟩ = some v) : b < w.heap.size := World.block_lt_of_cell? w _ h
theorem cell_block {b j : Nat} (h : w'.heap[b]? = w.heap[b]?) : w'.cell? ⟨b, j, none⟩ = w.cell? ⟨b, j, none⟩ := World.cell?_of_block h
/-- growth alone -/
theorem Turn.ext (hf : ∀ b j, w'.heap.size ≤ b → ok' b j) (e : Ext w w') (hk : ∀ b j, b < w.heap.size → (ok' b j ↔ ok b j)) : Turn ok m w ok' w' :=
  ⟨e.os, e.tape, e.output, ⟨e.size, fun b j _v h1 h2 => ⟨(cell_block (e.block b (cell_lt h1))).trans h1, (hk b j (cell_lt h1)).2 h2⟩⟩, fun b hb _ => e.block b hb, fun b j hb _ h => (hk b j hb).1 h, hf⟩
theorem St.ext (h : St s ok m w) (e : Ext w w') : St s ok m w' := by
  have t : Turn ok m w ok w' := Turn.ext (fun b j hb => h.fresh b j (Nat.le_trans e.size hb)) e (fun _ _ _ => Iff.rfl)
  exact h.turn t (fun p hp => Piece.keep (h.at_ p hp) t.stp fun g hg => e.block g (h.lt p hp g hg).1) (fun p hp g hg => .inr ⟨p, hp, hg⟩) h.own h.dis
theorem Ext.astp (e : Ext w w') (ok : Ok) : Stp ok w ok w' := ⟨e.size, fun b _j _v h1 h2 => ⟨(cell_block (e.block b (cell_lt h1))).trans h1, h2⟩⟩
/-- growth by blocks some of which are pieces -/
theorem St.grow {new : List Piece} (h : St s ok m w) (e : Ext w w') (hk : ∀ b j, b < w.heap.size → (ok' b j ↔ ok b j)) (hf : ∀ b j, w'.heap.size ≤ b → ok' b j) (hat : ∀ p ∈ new, p.at_ ok' w')
    (hlt : ∀ p ∈ new, ∀ g, p.blk = some g → w.heap.size ≤ g) (hown : ∀ p ∈ new, ∀ b j, p.owns b j → ¬ ok' b j) (hdis : new.Pairwise fun p q => ∀ g, p.blk = some g → q.blk ≠ some g) : St s ok' (new ++ m) w' ∧ Stp ok w ok' w' := by
  have t : Turn ok m w ok' w' := Turn.ext hf e hk
  refine ⟨h.turn t (fun p hp => ?_) (fun p hp g hg => ?_) (fun p hp b j hb => ?_) ?_, t.stp⟩
  · rcases List.mem_append.1 hp with hp | hp
    · exact hat p hp
    · exact Piece.keep (h.at_ p hp) t.stp fun g hg => e.block g (h.lt p hp g hg).1
  · rcases List.mem_append.1 hp with hp | hp
    · exact .inl (hlt p hp g hg)
    · exact .inr ⟨p, hp, hg⟩
  · rcases List.mem_append.1 hp with hp | hp
    · exact hown p hp b j hb
    · exact fun ho => h.own p hp b j hb ((hk b j (h.lt p hp b (Piece.owns_blk hb)).1).1 ho)
  · rw [List.pairwise_append]
    refine ⟨hdis, h.dis, fun p hp q hq g hg hg' => ?_⟩
    have h1 := hlt p hp g hg
    have h2 := (h.lt q hq g hg').1
    omega
/-- a new variable -/
theorem St.newVar (h : St s ok m w) (T : TypeId) {v : AV} {cs : List Value} (hv : RC ok w v cs) :
    ∃ ok', St s ok' (.var w.heap.size T v :: m) (w.alloc (.cells cs.toArray T)) ∧ Stp ok w ok' (w.alloc (.cells cs.toArray T)) := by
  have hk : ∀ b j, b < w.heap.size → ((ok b j ∧ b ≠ w.heap.size) ↔ ok b j) := fun b j hb => ⟨fun h => h.1, fun h => ⟨h, by omega⟩⟩
  have e := Ext.alloc w (.cells cs.toArray T)
  have hf : ∀ b j, (w.alloc (.cells cs.toArray T)).heap.size ≤ b → (ok b j ∧ b ≠ w.heap.size) := fun b j hb => by
    have : w.heap.size + 1 ≤ b := by simpa using hb
    exact ⟨h.fresh b j (by omega), by omega⟩
  have t : Turn ok m w (fun b j => ok b j ∧ b ≠ w.heap.size) (w.alloc (.cells cs.toArray T)) := Turn.ext hf e hk
  exact ⟨_, h.grow (new := [.var w.heap.size T v]) e hk hf (fun p hp => by
    obtain rfl : p = _ := by simpa using hp
    exact ⟨cs, heap_alloc_new w _, hv.stp t.stp⟩) (fun p hp g hg => by
    obtain rfl : p = _ := by simpa using hp
    injection hg with hg
    omega) (fun p hp b j hb => by
    obtain rfl : p = _ := by simpa using hp
    intro ho
    exact ho.2 hb) (by simp)⟩
/-- a piece is written: its block alone turns; what of it is data stays -/
theorem St.write {p p' : Piece} {pre post : List Piece} {g : Nat} (h : St s ok (pre ++ p :: post) w) (hb : p.blk = some g) (hb' : p'.blk = some g ∨ p'.blk = none) (hst : Stp ok w ok' w') (hp' : p'.at_ ok' w') (hown : ∀ b j, p'.owns b j → ¬ ok' b j)
    (hsz : w'.heap.size = w.heap.size) (hos : w'.os = w.os) (htp : w'.tape = w.tape) (hou : w'.output = w.output) (hk : ∀ b, b ≠ g → w'.heap[b]? = w.heap[b]?) (hok : ∀ b j, b ≠ g → (ok' b j ↔ ok b j)) :
    St s ok' (pre ++ p' :: post) w' := by
  have hpm : p ∈ pre ++ p :: post := by simp
  have hdis := h.dis
  rw [List.pairwise_append, List.pairwise_cons] at hdis
  obtain ⟨d1, ⟨d2, d3⟩, d4⟩ := hdis
  have hne : ∀ q, q ∈ pre ∨ q ∈ post → ∀ g', q.blk = some g' → g' ≠ g := by
    rintro q (hq | hq) g' hg' rfl
    · exact d4 q hq p (by simp) g' hg' hb
    · exact d2 q hq g' hb hg'
  have hmem : ∀ q, q ∈ pre ++ p' :: post → (q ∈ pre ∨ q ∈ post) ∨ q = p' := fun q hq => by
    rw [List.mem_append, List.mem_cons] at hq
    rcases hq with hq | rfl | hq
    · exact .inl (.inl hq)
    · exact .inr rfl
    · exact .inl (.inr hq)
  have hin : ∀ q, q ∈ pre ∨ q ∈ post → q ∈ pre ++ p :: post := fun q hq => by rcases hq with hq | hq <;> simp [hq]
  have hglt := (h.lt p hpm g hb).1
  have t : Turn ok (pre ++ p :: post) w ok' w' := ⟨hos, htp, hou, hst, fun b _ hnb => hk b (by rintro rfl; exact hnb p hpm hb), fun b j _ hnb ho => (hok b j (by rintro rfl; exact hnb p hpm hb)).1 ho, fun b j hbs => (hok b j (by rw [hsz] at hbs; omega)).2 (h.fresh b j (by rw [hsz] at hbs; exact hbs))⟩
  refine h.turn t (fun q hq => ?_) (fun q hq g' hg' => ?_) (fun q hq b j hbj => ?_) ?_
  · rcases hmem q hq with hq | rfl
    · exact Piece.keep (h.at_ q (hin q hq)) hst fun g' hg' => hk g' (hne q hq g' hg')
    · exact hp'
  · rcases hmem q hq with hq | rfl
    · exact .inr ⟨q, hin q hq, hg'⟩
    · rcases hb' with hb' | hb'
      · exact .inr ⟨p, hpm, by rw [hb, ← hb', hg']⟩
      · rw [hb'] at hg'; cases hg'
  · rcases hmem q hq with hq | rfl
    · have hbq := hne q hq b (Piece.owns_blk hbj)
      exact fun ho => h.own q (hin q hq) b j hbj ((hok b j hbq).1 ho)
    · exact hown b j hbj
  · rw [List.pairwise_append, List.pairwise_cons]
    refine ⟨d1, ⟨fun q hq g' hg' hq' => ?_, d3⟩, fun q hq r hr g' hg' => ?_⟩
    · rcases hb' with hb' | hb'
      · rw [hb'] at hg'
        injection hg' with hg'
        exact hne q (.inr hq) g' hq' hg'.symm
      · rw [hb'] at hg'; cases hg'
    · rcases List.mem_cons.1 hr with rfl | hr
      · rcases hb' with hb' | hb'
        · rw [hb']
          intro e
          injection e with e
          exact hne q (.inl hq) g' hg' e.symm
        · rw [hb']; simp
      · exact d4 q hq r (by simp [hr]) g' hg'
/-- a variable is written -/
theorem St.writeVar {g : Nat} {T : TypeId} {v v' : AV} {pre post : List Piece} {cs' : List Value} (h : St s ok (pre ++ .var g T v :: post) w) (hv : RC ok w v' cs') (hsz : ∀ cs : List Value, w.heap[g]? = some (.cells cs.toArray T (0, 0)) → cs'.length = cs.length) :
    St s ok (pre ++ .var g T v' :: post) (w.setRow g cs'.toArray) ∧ Stp ok w ok (w.setRow g cs'.toArray) := by
  have hpm : Piece.var g T v ∈ pre ++ .var g T v :: post := by simp
  obtain ⟨cs, hb, hc⟩ := h.at_ _ hpm
  have hst : Stp ok w ok (w.setRow g cs'.toArray) := ⟨by simp, fun b j u h1 h2 => by
    have hne : b ≠ g := by
      rintro rfl
      exact h.own _ hpm b j rfl h2
    exact ⟨(cell_block (setRow_other w g b _ hne)).trans h1, h2⟩⟩
  exact ⟨h.write (g := g) rfl (.inl rfl) hst ⟨cs', setRow_heap w g _ _ T (0, 0) hb, hv.stp hst⟩ (fun b j hbj => h.own _ hpm b j hbj) (by simp) rfl rfl rfl (fun b hne => setRow_other w g b _ hne) (fun _ _ _ => Iff.rfl), hst⟩
/-- pieces may be forgotten -/
theorem St.less {m' : List Piece} (h : St s ok m w) (hs : m'.Sublist m) : St s ok m' w :=
  ⟨h.os, h.tape, h.output, h.stp, h.old, h.sub, h.fresh, fun p hp => h.at_ p (hs.subset hp), fun p hp => h.lt p (hs.subset hp), fun p hp => h.own p (hs.subset hp), h.dis.sublist hs, h.gl⟩
/-- .. and come in another order -/
theorem St.perm {m' : List Piece} (h : St s ok m w) (hp : m'.Perm m) : St s ok m' w :=
  ⟨h.os, h.tape, h.output, h.stp, h.old, h.sub, h.fresh, fun p hq => h.at_ p (hp.mem_iff.1 hq), fun p hq => h.lt p (hp.mem_iff.1 hq), fun p hq => h.own p (hp.mem_iff.1 hq), (hp.pairwise_iff (fun h g h1 h2 => h g h2 h1)).2 h.dis, h.gl⟩
/-- a slice that is full has a tail of none -/
theorem St.full (h : St s ok m w) (E : TypeId) (k : Nat) (A : Option Addr) (n : Nat) : St s ok (.tail E k (.slice A n n) :: m) w :=
  ⟨h.os, h.tape, h.output, h.stp, h.old, h.sub, h.fresh, fun p hp => by
    rcases List.mem_cons.1 hp with rfl | hp
    · exact .inl ⟨A, n, rfl⟩
    · exact h.at_ p hp, fun p hp g hg => by
    rcases List.mem_cons.1 hp with rfl | hp
    · cases A <;> simp [Piece.blk, tailBlk] at hg
    · exact h.lt p hp g hg, fun p hp b j hb => by
    rcases List.mem_cons.1 hp with rfl | hp
    · obtain ⟨a, n', c, he, hne, _⟩ := hb
      injection he with _ h1 h2
      omega
    · exact h.own p hp b j hb, List.pairwise_cons.2 ⟨fun q _ g hg => by cases A <;> simp [Piece.blk, tailBlk] at hg, h.dis⟩, h.gl⟩
/-- a part of the pieces is handed to a call -/
def lent (gl : List (Nat × AV)) (m : List Piece) (ok : Ok) (w : World) : Base := ⟨w, ok, fun b => ∃ p ∈ m, p.blk = some b, gl⟩
theorem St.start (gl : List (Nat × AV)) (w : World) (ok : Ok) (hf : ∀ b j, w.heap.size ≤ b → ok b j) (hg : Glob gl ok w) : St (lent gl [] ok w) ok [] w :=
  ⟨rfl, rfl, rfl, Stp.refl _ _, fun _ _ _ => rfl, fun _ _ _ _ h => h, hf, by simp, by simp, by simp, by simp, hg⟩
theorem St.out {gl : List (Nat × AV)} {w0 : World} {ok0 : Ok} (h : St (lent gl [] ok0 w0) ok m w) : Ext w0 w := ⟨h.os, h.tape, h.output, h.stp.size, fun b hb => h.old b hb (fun ⟨_, hp, _⟩ => by simp at hp)⟩
theorem St.lend {m1 fr : List Piece} (h : St s ok (m1 ++ fr) w) : St (lent s.gl m1 ok w) ok m1 w :=
  ⟨rfl, rfl, rfl, Stp.refl _ _, fun _ _ _ => rfl, fun _ _ _ _ h => h, h.fresh, fun p hp => h.at_ p (by simp [hp]), fun p hp g hg => ⟨(h.lt p (by simp [hp]) g hg).1, .inr ⟨p, hp, hg⟩⟩, fun p hp => h.own p (by simp [hp]), (List.pairwise_append.1 h.dis).1, h.gl⟩
theorem St.back {m1 m1' fr : List Piece} (h : St s ok (m1 ++ fr) w) (k : St (lent s.gl m1 ok w) ok' m1' w') : St s ok' (m1' ++ fr) w' := by
  have hd := h.dis
  rw [List.pairwise_append] at hd
  have hfr : ∀ q ∈ fr, ∀ g, q.blk = some g → g < w.heap.size ∧ ¬ (lent s.gl m1 ok w).md g := fun q hq g hg => ⟨(h.lt q (by simp [hq]) g hg).1, fun ⟨p, hp, hpg⟩ => hd.2.2 p hp q hq g hpg hg⟩
  have t : Turn ok (m1 ++ fr) w ok' w' := ⟨k.os, k.tape, k.output, k.stp, fun b hb hnb => k.old b hb (fun ⟨p, hp, hpg⟩ => hnb p (by simp [hp]) hpg), fun b j hb hnb ho => k.sub b j hb (fun ⟨p, hp, hpg⟩ => hnb p (by simp [hp]) hpg) ho, k.fresh⟩
  refine h.turn t (fun p hp => ?_) (fun p hp g hg => ?_) (fun p hp b j hbj => ?_) ?_
  · rcases List.mem_append.1 hp with hp | hp
    · exact k.at_ p hp
    · exact Piece.keep (h.at_ p (by simp [hp])) k.stp fun g hg => k.old g (hfr p hp g hg).1 (hfr p hp g hg).2
  · rcases List.mem_append.1 hp with hp | hp
    · rcases (k.lt p hp g hg).2 with h1 | ⟨q, hq, hqg⟩
      · exact .inl h1
      · exact .inr ⟨q, by simp [hq], hqg⟩
    · exact .inr ⟨p, by simp [hp], hg⟩
  · rcases List.mem_append.1 hp with hp | hp
    · exact k.own p hp b j hbj
    · have := hfr p hp b (Piece.owns_blk hbj)
      exact fun ho => h.own p (by simp [hp]) b j hbj (k.sub b j this.1 this.2 ho)
  · rw [List.pairwise_append]
    refine ⟨k.dis, hd.2.1, fun p hp q hq g hg hg' => ?_⟩
    have := hfr q hq g hg'
    rcases (k.lt p hp g hg).2 with h1 | h1
    · have : (lent s.gl m1 ok w).w = w := rfl
      rw [this] at h1
      omega
    · exact this.2 h1
end
end Av

namespace Av
open Go Go.RowKit Tw

abbrev Env := List (Nat × AV)
def lk : Env → Nat → Option AV
  | [], _ => none
  | (t, v) :: e, s => bif Nat.beq t s then some v else lk e s
structure Sat (N : Nat) (ok : Ok) (w : World) (e : Env) (a : Act) : Prop where
  size : a.tmps.size = N
  defers : a.defers = []
  env : ∀ t v, lk e t = some v → RV ok w v (a.tmps.getD t undef)
def ev (e : Env) : Operand → Option AV
  | .tmp t => lk e t
  | .const v => bif v.oneCell' then some (.lit v) else none
  | .global g => some (.lit (.pointer (some ⟨g, 0, none⟩)))
  | .func f => some (.lit (.func (.func f) #[] #[]))
def evs (e : Env) : List Operand → Option (List AV)
  | [] => some []
  | x :: xs => match ev e x, evs e xs with
    | some v, some vs => some (v :: vs)
    | _, _ => none
def noTup : AV → Bool
  | .tup _ => false
  | _ => true

section
variable {P : Program} {N : Nat} {s : Base} {e : Env} {a : Act} {ok ok' : Ok} {w w' : World} {m : List Piece} {Q : Exit → Act → World → Prop}

theorem Sat.eval {x : Operand} {v : AV} (h : Sat N ok w e a) (hx : ev e x = some v) : RV ok w v (a.eval x) := by
  cases x with
  | tmp t => exact h.env t v hx
  | const u =>
    simp only [ev] at hx
    cases hu : u.oneCell' with
    | false => simp [hu] at hx
    | true =>
      simp [hu] at hx
      subst hx
      exact RV0.of_lit hu
  | global g =>
    injection hx with hx
    subst hx
    exact RV0.of_lit rfl
  | func f =>
    injection hx with hx
    subst hx
    exact RV0.of_lit rfl
theorem Sat.lit {x : Operand} {v : Value} (h : Sat N ok w e a) (hx : ev e x = some (.lit v)) : a.eval x = v := RV.lit (h.eval hx)
theorem Sat.evals (h : Sat N ok w e a) : ∀ {xs : List Operand} {vs : List AV}, evs e xs = some vs → vs.all noTup = true → RVs ok w vs (xs.map a.eval)
  | [], vs, hx, _ => by
    simp [evs] at hx
    subst hx
    rfl
  | x :: xs, vs, hx, hn => by
    unfold evs at hx
    cases h1 : ev e x with
    | none => simp [h1] at hx
    | some v =>
      cases h2 : evs e xs with
      | none => simp [h1, h2] at hx
      | some us =>
        simp [h1, h2] at hx
        subst hx
        simp only [List.all_cons, Bool.and_eq_true] at hn
        exact ⟨_, _, rfl, (h.eval h1).to0 (by rintro vs rfl; simp [noTup] at hn), h.evals h2 hn.2⟩
theorem Sat.put {d : Nat} {v : AV} {u : Value} (h : Sat N ok w e a) (hu : RV ok w v u) (hd : Nat.blt d N = true) : Sat N ok w ((d, v) :: e) (a.put (some d) u) := by
  have hd' : d < N := by
    have : d + 1 ≤ N := by simpa [Nat.blt, Nat.ble_eq] using hd
    exact this
  refine ⟨by simp [Act.put, h.size], by simp [Act.put, h.defers], fun t x ht => ?_⟩
  unfold lk at ht
  by_cases htd : d = t
  · subst htd
    simp at ht
    subst ht
    simpa [Act.put, h.size, hd'] using hu
  · have : Nat.beq d t = false := beq_ff htd
    simp [this] at ht
    have := h.env t x ht
    simpa [Act.put, Array.getElem?_setIfInBounds_ne htd] using this
theorem Sat.stp (h : Sat N ok w e a) (st : Stp ok w ok' w') : Sat N ok' w' e a := ⟨h.size, h.defers, fun t v ht => (h.env t v ht).stp st⟩
/-- what the smaller frame says the larger one says -/
def subE : Env → Env → Prop
  | [], _ => True
  | p :: r, e => lk e p.1 = some p.2 ∧ subE r e
theorem Sat.weak {e' : Env} (h : Sat N ok w e a) (hs : subE e' e) : Sat N ok w e' a := by
  refine ⟨h.size, h.defers, ?_⟩
  induction e' with
  | nil => intro t v ht; simp [lk] at ht
  | cons p r ih =>
    intro t v ht
    unfold lk at ht
    by_cases hp : p.1 = t
    · subst hp
      simp at ht
      subst ht
      exact h.env _ _ hs.1
    · have : Nat.beq p.1 t = false := beq_ff hp
      simp [this] at ht
      exact ih hs.2 t v ht
theorem Sat.also {t : Nat} {v : AV} (ha : Sat N ok w e a) (hv : RV ok w v (a.tmps.getD t undef)) : Sat N ok w ((t, v) :: e) a := by
  refine ⟨ha.size, ha.defers, fun x u hx => ?_⟩
  unfold lk at hx
  by_cases h : t = x
  · subst h
    simp at hx
    subst hx
    exact hv
  · simp [beq_ff h] at hx
    exact ha.env x u hx

def AL (P : Program) (N : Nat) (ops : Array Oper) (Q : Exit → Act → World → Prop) (s : Base) (l : List Oper) (e : Env) (m : List Piece) : Prop := ∀ ok w a, St s ok m w → Sat N ok w e a → wpList P ops Q l a w
def AC (P : Program) (N : Nat) (c : Code) (Q : Exit → Act → World → Prop) (s : Base) (e : Env) (m : List Piece) : Prop := ∀ ok w a, St s ok m w → Sat N ok w e a → c.wp P Q a w
/-- the post at an exit -/
def AE (N : Nat) (x : Exit) (Q : Exit → Act → World → Prop) (s : Base) (e : Env) (m : List Piece) : Prop := ∀ ok w a, St s ok m w → Sat N ok w e a → Q x a w

theorem AL.mk {ops : Array Oper} {l : List Oper} (h : ∀ ok w a, St s ok m w → Sat N ok w e a → wpList P ops Q l a w) : AL P N ops Q s l e m := h
theorem AL.run {ops : Array Oper} {l : List Oper} (h : AL P N ops Q s l e m) : ∀ ok w a, St s ok m w → Sat N ok w e a → wpList P ops Q l a w := h
theorem AC.mk {c : Code} (h : ∀ ok w a, St s ok m w → Sat N ok w e a → c.wp P Q a w) : AC P N c Q s e m := h
theorem AC.run {c : Code} (h : AC P N c Q s e m) : ∀ ok w a, St s ok m w → Sat N ok w e a → c.wp P Q a w := h
theorem AE.mk {x : Exit} (h : ∀ ok w a, St s ok m w → Sat N ok w e a → Q x a w) : AE N x Q s e m := h
theorem AE.run {x : Exit} (h : AE N x Q s e m) : ∀ ok w a, St s ok m w → Sat N ok w e a → Q x a w := h
/-! ### Control -/
theorem ac_seq {x y : Code} (h : AC P N x (Exit.then (fun a w => y.wp P Q a w) Q) s e m) : AC P N (.seq x y) Q s e m := fun ok w a hS ha => wp_seq (h ok w a hS ha)
theorem ac_block {id : Nat} {c : Code} (h : AC P N c (Exit.inBlock id Q) s e m) : AC P N (.block id c) Q s e m := fun ok w a hS ha => wp_block (h ok w a hS ha)
theorem ac_skip (h : AE N .normal Q s e m) : AC P N .skip Q s e m := fun ok w a hS ha => wp_skip (h ok w a hS ha)
theorem ac_exit {id : Nat} (h : AE N (.exit id) Q s e m) : AC P N (.exit id) Q s e m := fun ok w a hS ha => wp_exit (h ok w a hS ha)
theorem ac_ret (h : AE N .ret Q s e m) : AC P N .ret Q s e m := fun ok w a hS ha => wp_ret (h ok w a hS ha)
theorem ac_scope {c : Code} (h : AC P N c (Exit.noGoto Q) s e m) : AC P N (.scope c) Q s e m := fun ok w a hS ha => wp_scope_straight (h ok w a hS ha)
theorem ac_label {l : Nat} (h : AE N .normal Q s e m) : AC P N (.label l) Q s e m := fun ok w a hS ha => wp_label (h ok w a hS ha)
theorem ac_cond {c : Operand} {x y : Code} {p : Prop} [Decidable p] (ht : p → AC P N x Q s e m) (hf : ¬ p → AC P N y Q s e m) (hc : ev e c = some (.lit (.bool (decide p))) := by exact rfl) : AC P N (.cond c x y) Q s e m := fun ok w a hS ha =>
  wp_cond_split (ha.lit hc) (fun h => ht (of_decide_eq_true h) ok w a hS ha) (fun h => hf (of_decide_eq_false h) ok w a hS ha)
theorem ac_condB {c : Operand} {x y : Code} {b : Bool} (ht : b = true → AC P N x Q s e m) (hf : b = false → AC P N y Q s e m) (hc : ev e c = some (.lit (.bool b)) := by exact rfl) : AC P N (.cond c x y) Q s e m := fun ok w a hS ha =>
  wp_cond_split (ha.lit hc) (fun h => ht h ok w a hS ha) (fun h => hf h ok w a hS ha)
theorem ac_condT {c : Operand} {x y : Code} (h : AC P N x Q s e m) (hc : ev e c = some (.lit (.bool true)) := by exact rfl) : AC P N (.cond c x y) Q s e m := fun ok w a hS ha => wp_cond_true (ha.lit hc) (h ok w a hS ha)
theorem ac_condF {c : Operand} {x y : Code} (h : AC P N y Q s e m) (hc : ev e c = some (.lit (.bool false)) := by exact rfl) : AC P N (.cond c x y) Q s e m := fun ok w a hS ha => wp_cond_false (ha.lit hc) (h ok w a hS ha)
theorem ae_thenC {c : Code} {Q' : Exit → Act → World → Prop} (h : AC P N c Q' s e m) : AE N .normal (Exit.then (fun a w => c.wp P Q' a w) Q) s e m := h
theorem ae_thenX {K : Act → World → Prop} {id : Nat} (h : AE N (.exit id) Q s e m) : AE N (.exit id) (Exit.then K Q) s e m := h
theorem ae_thenR {K : Act → World → Prop} (h : AE N .ret Q s e m) : AE N .ret (Exit.then K Q) s e m := h
theorem ae_block {id : Nat} (h : AE N .normal Q s e m) : AE N .normal (Exit.inBlock id Q) s e m := h
theorem ae_blockR {id : Nat} (h : AE N .ret Q s e m) : AE N .ret (Exit.inBlock id Q) s e m := h
theorem ae_blockX {id : Nat} (h : AE N .normal Q s e m) : AE N (.exit id) (Exit.inBlock id Q) s e m := fun ok w a hS ha => by
  show Exit.inBlock id Q (.exit id) a w
  simp only [Exit.inBlock, if_true]
  exact h ok w a hS ha
theorem ae_blockO {id j : Nat} (h : AE N (.exit j) Q s e m) (hj : Nat.beq j id = false := by exact rfl) : AE N (.exit j) (Exit.inBlock id Q) s e m := fun ok w a hS ha => by
  show Exit.inBlock id Q (.exit j) a w
  have : j ≠ id := Nat.ne_of_beq_eq_false hj
  simp only [Exit.inBlock, this, if_false]
  exact h ok w a hS ha
theorem ae_noGoto (h : AE N .normal Q s e m) : AE N .normal (Exit.noGoto Q) s e m := h
theorem ae_noGotoR (h : AE N .ret Q s e m) : AE N .ret (Exit.noGoto Q) s e m := h
theorem ae_noGotoX {i : Nat} (h : AE N (.exit i) Q s e m) : AE N (.exit i) (Exit.noGoto Q) s e m := h
theorem ac_region {id : Nat} {l : List Oper} (h : AL P N l.toArray Q s l e m) : AC P N (.region id l.toArray false) Q s e m := fun ok w a hS ha => wp_region_lit (h ok w a hS ha)
theorem al_nil {ops : Array Oper} (h : AE N .normal Q s e m) : AL P N ops Q s [] e m := fun ok w a hS ha => h ok w a hS ha
/-- a cut: whatever the first part leaves, the rest goes on from it -/
theorem ac_cut {x y : Code} {α : Type} (I : α → Env) (M : α → List Piece) (h1 : AC P N x (Exit.then (fun a w => ∃ z ok, Sat N ok w (I z) a ∧ St s ok (M z) w) Q) s e m) (h2 : ∀ z, AC P N y Q s (I z) (M z)) : AC P N (.seq x y) Q s e m := fun ok w a hS ha =>
  wp_seq (wp_mono (h1 ok w a hS ha) fun x a' w' hx => by cases x <;> first | (obtain ⟨z, ok', g1, g2⟩ := hx; exact h2 z _ _ _ g2 g1) | exact hx)
theorem ae_cut {α : Type} {I : α → Env} {M : α → List Piece} (z : α) (hs : subE (I z) e) (hm : (M z).Sublist m) : AE N .normal (Exit.then (fun a w => ∃ z ok, Sat N ok w (I z) a ∧ St s ok (M z) w) Q) s e m := fun ok _w _a hS ha => ⟨z, ok, ha.weak hs, hS.less hm⟩
/-- a loop: at each head the frame I x, the pieces M x and the fact F x; the measure sinks -/
theorem ac_loop {c : Code} {α : Type} (I : α → Env) (M : α → List Piece) (F : α → Prop) (μ : α → Nat) (x : α) (h0 : subE (I x) e) (hm : (M x).Sublist m) (hF : F x)
    (round : ∀ x, F x → AC P N c (Exit.then (fun a' w' => ∃ y ok', μ y < μ x ∧ Sat N ok' w' (I y) a' ∧ St s ok' (M y) w' ∧ F y) Q) s (I x) (M x)) : AC P N (.loop c) Q s e m := fun ok w a hS ha =>
  wp_loop_ghost (α := α × Ok) (fun x a w => Sat N x.2 w (I x.1) a ∧ St s x.2 (M x.1) w ∧ F x.1) (fun x => μ x.1) (x, ok) ⟨ha.weak h0, hS.less hm, hF⟩ fun ⟨x, ok1⟩ a1 w1 ⟨h1, h2, h3⟩ =>
    wp_mono (round x h3 ok1 w1 a1 h2 h1) fun ex a' w' hx => by
      cases ex <;> first | exact hx | skip
      obtain ⟨y, ok', g1, g2, g3, g4⟩ := hx
      exact ⟨(y, ok'), g1, g2, g3, g4⟩
/-- a round's end -/
theorem ae_round {α : Type} {I : α → Env} {M : α → List Piece} {F : α → Prop} {μ : α → Nat} {n : Nat} (y : α) (hs : subE (I y) e) (hm : (M y).Sublist m) (hF : F y) (hn : μ y < n) :
    AE N .normal (Exit.then (fun a' w' => ∃ y ok', μ y < n ∧ Sat N ok' w' (I y) a' ∧ St s ok' (M y) w' ∧ F y) Q) s e m := fun ok _w _a hS ha => ⟨y, ok, hn, ha.weak hs, hS.less hm, hF⟩

/-! a value that is known under another form -/
/-- what is a is b -/
def Imp (a b : AV) : Prop := ∀ ok w v, RV ok w a v → RV ok w b v
theorem Imp.of_eq {a b : AV} (h : a = b) : Imp a b := fun _ _ _ h' => h ▸ h'
theorem Imp.sl {k : Nat} {xs : List AV} {id : Option Value} : Imp (.sl k xs id) (.sl k xs none) := fun ok w v h => by
  obtain ⟨h1, h2⟩ := (show RV0 ok w (.sl k xs id) v from h)
  refine ⟨?_, h2⟩
  rw [RC] at h1 ⊢
  obtain ⟨A, c, g1, _, g3⟩ := h1
  exact ⟨A, c, g1, by simp, g3⟩
theorem Imp.nil {k : Nat} : Imp (.lit (.slice none 0 0)) (.sl k [] (some (.slice none 0 0))) := fun ok w v h => by
  obtain rfl := RV.lit h
  refine ⟨?_, rfl⟩
  rw [RC]
  exact ⟨none, 0, rfl, by simp, Nat.le_refl _, by simp [maxLen], by simp, by simp⟩
theorem Imp.nilN {k : Nat} : Imp (.lit (.slice none 0 0)) (.sl k [] none) := fun ok w v h => Imp.sl ok w v (Imp.nil ok w v h)
theorem Imp.trans {a b c : AV} (h : Imp a b) (k : Imp b c) : Imp a c := fun ok w v h' => k ok w v (h ok w v h')
theorem al_as {ops : Array Oper} {l : List Oper} (t : Nat) {v v' : AV} (hi : Imp v v') (h : AL P N ops Q s l ((t, v') :: e) m) (hv : lk e t = some v := by exact rfl) : AL P N ops Q s l e m := fun ok w a hS ha => h ok w a hS (ha.also (hi _ _ _ (ha.env t v hv)))
theorem ac_as {c : Code} (t : Nat) {v v' : AV} (hi : Imp v v') (h : AC P N c Q s ((t, v') :: e) m) (hv : lk e t = some v := by exact rfl) : AC P N c Q s e m := fun ok w a hS ha => h ok w a hS (ha.also (hi _ _ _ (ha.env t v hv)))
theorem ae_as {x : Exit} (t : Nat) {v v' : AV} (hi : Imp v v') (h : AE N x Q s ((t, v') :: e) m) (hv : lk e t = some v := by exact rfl) : AE N x Q s e m := fun ok w a hS ha => h ok w a hS (ha.also (hi _ _ _ (ha.env t v hv)))
/-- what the pieces say may be said otherwise -/
theorem al_st {ops : Array Oper} {l : List Oper} {m' : List Piece} (hi : ∀ ok w, St s ok m w → St s ok m' w) (h : AL P N ops Q s l e m') : AL P N ops Q s l e m := fun ok w a hS ha => h ok w a (hi ok w hS) ha
theorem ac_st {c : Code} {m' : List Piece} (hi : ∀ ok w, St s ok m w → St s ok m' w) (h : AC P N c Q s e m') : AC P N c Q s e m := fun ok w a hS ha => h ok w a (hi ok w hS) ha
theorem ae_st {x : Exit} {m' : List Piece} (hi : ∀ ok w, St s ok m w → St s ok m' w) (h : AE N x Q s e m') : AE N x Q s e m := fun ok w a hS ha => h ok w a (hi ok w hS) ha
end

/-! ### Operations that only compute -/
section
variable {P : Program} {N : Nat} {ops : Array Oper} {Q : Exit → Act → World → Prop} {rest : List Oper} {s : Base} {e : Env} {m : List Piece} {d : Nat} {ty : TypeId} {pos : String} {af : Array Edge}
theorem al_val {op : Op} {v : AV} (hrun : ∀ ok w a, St s ok m w → Sat N ok w e a → ∃ u, (execOp a.eval ⟨some d, op, ty, pos, af, none⟩).run P w = .ok (.value u) w ∧ RV ok w v u) (hd : Nat.blt d N = true)
    (h : AL P N ops Q s rest ((d, v) :: e) m) : AL P N ops Q s (⟨some d, op, ty, pos, af, none⟩ :: rest) e m := fun ok w a hS ha =>
  wpList_plain rfl fun K hK => by
    obtain ⟨u, h1, h2⟩ := hrun ok w a hS ha
    unfold Oper.wp
    rw [h1]
    exact hK _ _ (h _ _ _ hS (ha.put h2 hd))
theorem al_lit {op : Op} {v : Value} (hv : v.oneCell' = true) (hrun : ∀ ok w a, Sat N ok w e a → (execOp a.eval ⟨some d, op, ty, pos, af, none⟩).run P w = .ok (.value v) w) (hd : Nat.blt d N = true)
    (h : AL P N ops Q s rest ((d, .lit v) :: e) m) : AL P N ops Q s (⟨some d, op, ty, pos, af, none⟩ :: rest) e m :=
  al_val (v := .lit v) (fun ok w a _ ha => ⟨v, hrun ok w a ha, (RV0.of_lit hv : RV0 ok w (.lit v) v)⟩) hd h
theorem al_move {x : Operand} {v : AV} (h : AL P N ops Q s rest ((d, v) :: e) m) (hx : ev e x = some v := by exact rfl) (hd : Nat.blt d N = true := by exact rfl) : AL P N ops Q s (⟨some d, .move x, ty, pos, af, none⟩ :: rest) e m :=
  al_val (fun ok w a _ ha => ⟨_, by simp [execOp], ha.eval hx⟩) hd h
theorem al_assign {x : Operand} {v : AV} (h : AL P N ops Q s rest ((d, v) :: e) m) (hx : ev e x = some v := by exact rfl) (hd : Nat.blt d N = true := by exact rfl) : AL P N ops Q s (⟨some d, .assign x, ty, pos, af, none⟩ :: rest) e m :=
  al_val (fun ok w a _ ha => ⟨_, by simp [execOp], ha.eval hx⟩) hd h
theorem al_pickT {c x y : Operand} {v : AV} (h : AL P N ops Q s rest ((d, v) :: e) m) (hc : ev e c = some (.lit (.bool true)) := by exact rfl) (hx : ev e x = some v := by exact rfl) (hd : Nat.blt d N = true := by exact rfl) : AL P N ops Q s (⟨some d, .pick c x y, ty, pos, af, none⟩ :: rest) e m :=
  al_val (fun ok w a _ ha => ⟨_, by simp [execOp, ha.lit hc, asBool], ha.eval hx⟩) hd h
theorem al_pickF {c x y : Operand} {v : AV} (h : AL P N ops Q s rest ((d, v) :: e) m) (hc : ev e c = some (.lit (.bool false)) := by exact rfl) (hy : ev e y = some v := by exact rfl) (hd : Nat.blt d N = true := by exact rfl) : AL P N ops Q s (⟨some d, .pick c x y, ty, pos, af, none⟩ :: rest) e m :=
  al_val (fun ok w a _ ha => ⟨_, by simp [execOp, ha.lit hc, asBool], ha.eval hy⟩) hd h
/-! guards -/
theorem yielded_of {t g : Nat} {c : Bool} {a : Act} (ht : (ops[g]?).bind (·.dst) = some t) (hv : a.tmps.getD t undef = .bool c) : yielded ops a.tmps g = some c := by
  have hv : a.tmps[t]?.getD undef = .bool c := by simpa using hv
  have hlt : t < a.tmps.size := by
    rcases Nat.lt_or_ge t a.tmps.size with h1 | h1
    · exact h1
    · rw [Array.getElem?_eq_none h1] at hv; simp [undef] at hv
  have hv2 : a.tmps[t]? = some (.bool c) := by
    rw [Array.getElem?_eq_getElem hlt] at hv ⊢
    simpa using hv
  simp [yielded, ht, hv2]
theorem al_on {op : Op} {dst : Option Tmp} {g : Nat} {b : Bool} {t : Nat} (h : AL P N ops Q s (⟨dst, op, ty, pos, af, none⟩ :: rest) e m) (ht : (ops[g]?).bind (·.dst) = some t := by exact rfl) (hb : lk e t = some (.lit (.bool b)) := by exact rfl) :
    AL P N ops Q s (⟨dst, op, ty, pos, af, some (g, b)⟩ :: rest) e m := fun ok w a hS ha => by
  have hy := yielded_of ht (RV.lit (ha.env t _ hb))
  have := h ok w a hS ha
  unfold wpList at this ⊢
  simp only [Region.wanted, if_true, hy, beq_self_eq_true] at this ⊢
  exact this
theorem al_off {op : Op} {g : Nat} {b : Bool} {t : Nat} (h : AL P N ops Q s rest ((d, .tup []) :: e) m) (ht : (ops[g]?).bind (·.dst) = some t := by exact rfl) (hb : lk e t = some (.lit (.bool (!b))) := by exact rfl) (hd : Nat.blt d N = true := by exact rfl) :
    AL P N ops Q s (⟨some d, op, ty, pos, af, some (g, b)⟩ :: rest) e m := fun ok w a hS ha => by
  have hy := yielded_of ht (RV.lit (ha.env t _ hb))
  unfold wpList
  rw [if_neg (by simp [Region.wanted, hy])]
  exact h _ _ _ hS (ha.put (show RV ok w (.tup []) undef from ⟨[], rfl, rfl⟩) hd)
theorem al_offN {op : Op} {g : Nat} {b : Bool} {t : Nat} (h : AL P N ops Q s rest e m) (ht : (ops[g]?).bind (·.dst) = some t := by exact rfl) (hb : lk e t = some (.lit (.bool (!b))) := by exact rfl) :
    AL P N ops Q s (⟨none, op, ty, pos, af, some (g, b)⟩ :: rest) e m := fun ok w a hS ha => by
  have hy := yielded_of ht (RV.lit (ha.env t _ hb))
  unfold wpList
  rw [if_neg (by simp [Region.wanted, hy])]
  exact h _ _ _ hS ha
theorem yielded_tup {t g : Nat} {a : Act} (ht : (ops[g]?).bind (·.dst) = some t) (hv : a.tmps.getD t undef = .tuple #[]) : yielded ops a.tmps g = none := by
  unfold yielded
  rw [ht]
  show (match a.tmps[t]? with | some (.bool b) => some b | _ => none) = none
  rcases Nat.lt_or_ge t a.tmps.size with h1 | h1
  · have h2 : a.tmps[t] = .tuple #[] := by simpa [h1] using hv
    rw [Array.getElem?_eq_getElem h1, h2]
  · rw [Array.getElem?_eq_none h1]
theorem al_offT {op : Op} {g : Nat} {b : Bool} {t : Nat} (h : AL P N ops Q s rest ((d, .tup []) :: e) m) (ht : (ops[g]?).bind (·.dst) = some t := by exact rfl) (hb : lk e t = some (.tup []) := by exact rfl) (hd : Nat.blt d N = true := by exact rfl) :
    AL P N ops Q s (⟨some d, op, ty, pos, af, some (g, b)⟩ :: rest) e m := fun ok w a hS ha => by
  obtain ⟨vs, e1, e2⟩ := (show ∃ vs : List Value, a.tmps.getD t undef = .tuple vs.toArray ∧ RVs ok w [] vs from ha.env t _ hb)
  obtain rfl := (show vs = [] from e2)
  have hy := yielded_tup (ops := ops) ht e1
  unfold wpList
  rw [if_neg (by simp [Region.wanted, hy])]
  exact h _ _ _ hS (ha.put (show RV ok w (.tup []) undef from ⟨[], rfl, rfl⟩) hd)
theorem al_offTN {op : Op} {g : Nat} {b : Bool} {t : Nat} (h : AL P N ops Q s rest e m) (ht : (ops[g]?).bind (·.dst) = some t := by exact rfl) (hb : lk e t = some (.tup []) := by exact rfl) :
    AL P N ops Q s (⟨none, op, ty, pos, af, some (g, b)⟩ :: rest) e m := fun ok w a hS ha => by
  obtain ⟨vs, e1, e2⟩ := (show ∃ vs : List Value, a.tmps.getD t undef = .tuple vs.toArray ∧ RVs ok w [] vs from ha.env t _ hb)
  obtain rfl := (show vs = [] from e2)
  have hy := yielded_tup (ops := ops) ht e1
  unfold wpList
  rw [if_neg (by simp [Region.wanted, hy])]
  exact h _ _ _ hS ha
/-- a guard that is not known yet: two ways -/
theorem al_guard {op : Op} {dst : Option Nat} {g : Nat} {b : Bool} {p : Prop} [Decidable p] (t : Nat) (h1 : p → AL P N ops Q s (⟨dst, op, ty, pos, af, some (g, b)⟩ :: rest) ((t, .lit (.bool true)) :: e) m)
    (h2 : ¬ p → AL P N ops Q s (⟨dst, op, ty, pos, af, some (g, b)⟩ :: rest) ((t, .lit (.bool false)) :: e) m) (hc : lk e t = some (.lit (.bool (decide p))) := by exact rfl) : AL P N ops Q s (⟨dst, op, ty, pos, af, some (g, b)⟩ :: rest) e m := fun ok w a hS ha => by
  have hv := ha.env t _ hc
  by_cases h : p
  · exact h1 h ok w a hS (ha.also (by simpa [h] using hv))
  · exact h2 h ok w a hS (ha.also (by simpa [h] using hv))
theorem al_guardB {op : Op} {dst : Option Nat} {g : Nat} {b c : Bool} (t : Nat) (h1 : c = true → AL P N ops Q s (⟨dst, op, ty, pos, af, some (g, b)⟩ :: rest) ((t, .lit (.bool true)) :: e) m)
    (h2 : c = false → AL P N ops Q s (⟨dst, op, ty, pos, af, some (g, b)⟩ :: rest) ((t, .lit (.bool false)) :: e) m) (hc : lk e t = some (.lit (.bool c)) := by exact rfl) : AL P N ops Q s (⟨dst, op, ty, pos, af, some (g, b)⟩ :: rest) e m := fun ok w a hS ha => by
  have hv := ha.env t _ hc
  cases c with
  | true => exact h1 rfl ok w a hS (ha.also hv)
  | false => exact h2 rfl ok w a hS (ha.also hv)
/-- decide a known truth -/
theorem al_true {l : List Oper} {p : Prop} [Decidable p] (t : Nat) (hp : p) (h : AL P N ops Q s l ((t, .lit (.bool true)) :: e) m) (hc : lk e t = some (.lit (.bool (decide p))) := by exact rfl) : AL P N ops Q s l e m :=
  al_as t (Imp.of_eq (by simp [hp])) h hc
theorem al_false {l : List Oper} {p : Prop} [Decidable p] (t : Nat) (hp : ¬ p) (h : AL P N ops Q s l ((t, .lit (.bool false)) :: e) m) (hc : lk e t = some (.lit (.bool (decide p))) := by exact rfl) : AL P N ops Q s l e m :=
  al_as t (Imp.of_eq (by simp [hp])) h hc

/-! numbers -/
theorem run_bin {op : BinOp} {T yT : TypeId} {k : IntKind} {x y : Operand} {i j : Int} {v : Value} {ok : Ok} {w : World} {a : Act} (ha : Sat N ok w e a) (hx : ev e x = some (.lit (.int k i))) (hy : ev e y = some (.lit (.int k j)))
    (h : (binOp op T (.int k i) (.int k j)).run P w = .ok v w) : (execOp a.eval ⟨some d, .binOp op T x y yT, ty, pos, af, none⟩).run P w = .ok (.value v) w := by
  have hg : (eqGuard op T x y (.int k i) (.int k j)).run P w = .ok () w := by
    unfold eqGuard
    split <;> rfl
  simp [execOp, ha.lit hx, ha.lit hy, hg, h]
theorem al_arith64 {op : BinOp} {T yT : TypeId} {x y : Operand} {i j c : Int} (h : AL P N ops Q s rest ((d, .lit (.int .i64 c)) :: e) m) (hx : ev e x = some (.lit (.int .i64 i)) := by exact rfl) (hy : ev e y = some (.lit (.int .i64 j)) := by exact rfl) (hc : arith op i j = some c := by exact rfl)
    (h1 : -9223372036854775808 ≤ c := by omega) (h2 : c ≤ 9223372036854775807 := by omega) (hd : Nat.blt d N = true := by exact rfl) :
    AL P N ops Q s (⟨some d, .binOp op T x y yT, ty, pos, af, none⟩ :: rest) e m :=
  al_lit rfl (fun ok w a ha => run_bin ha hx hy (by rw [run_arith hc, wrap64_id h1 h2])) hd h
theorem al_arith {op : BinOp} {T yT : TypeId} {k : IntKind} {x y : Operand} {i j c : Int} (h : AL P N ops Q s rest ((d, .lit (.int k (k.wrap c))) :: e) m) (hx : ev e x = some (.lit (.int k i)) := by exact rfl) (hy : ev e y = some (.lit (.int k j)) := by exact rfl) (hc : arith op i j = some c := by exact rfl)
    (hd : Nat.blt d N = true := by exact rfl) : AL P N ops Q s (⟨some d, .binOp op T x y yT, ty, pos, af, none⟩ :: rest) e m :=
  al_lit rfl (fun _ok _w _a ha => run_bin ha hx hy (run_arith hc)) hd h
/-- a number compared: as a proposition -/
def cmpP : BinOp → Int → Int → Option Prop
  | .lss, a, b => some (a < b)
  | .leq, a, b => some (a ≤ b)
  | .gtr, a, b => some (b < a)
  | .geq, a, b => some (b ≤ a)
  | .eql, a, b => some (a = b)
  | .neq, a, b => some (a ≠ b)
  | _, _, _ => none
theorem al_cmp {op : BinOp} {T yT : TypeId} {k : IntKind} {x y : Operand} {i j : Int} {c : Bool} (h : AL P N ops Q s rest ((d, .lit (.bool c)) :: e) m) (hx : ev e x = some (.lit (.int k i)) := by exact rfl) (hy : ev e y = some (.lit (.int k j)) := by exact rfl) (hc : cmp op i j = some c := by exact rfl)
    (hd : Nat.blt d N = true := by exact rfl) : AL P N ops Q s (⟨some d, .binOp op T x y yT, ty, pos, af, none⟩ :: rest) e m :=
  al_lit rfl (fun _ok _w _a ha => run_bin ha hx hy (run_cmp hc)) hd h
theorem al_div {op : BinOp} {T yT : TypeId} {k : IntKind} {x y : Operand} {i j c : Int} (h : AL P N ops Q s rest ((d, .lit (.int k c)) :: e) m) (hx : ev e x = some (.lit (.int k i)) := by exact rfl) (hy : ev e y = some (.lit (.int k j)) := by exact rfl) (hc : divs op i j = some c := by exact rfl)
    (h0 : 0 ≤ i := by omega) (h1 : 0 < j := by omega) (h2 : ∀ c, 0 ≤ c → c ≤ i → k.wrap c = c := by intro c _ _; exact wrap64_id (by omega) (by omega)) (hd : Nat.blt d N = true := by exact rfl) : AL P N ops Q s (⟨some d, .binOp op T x y yT, ty, pos, af, none⟩ :: rest) e m :=
  al_lit rfl (fun ok w a ha => run_bin ha hx hy (by
    have hb : j ≠ 0 := by omega
    cases op <;> simp [divs] at hc <;> subst hc <;> simp [binOp, Op.intDiv, hb]
    · rw [Int.tdiv_eq_ediv_of_nonneg h0]
      exact h2 _ (Int.ediv_nonneg h0 (by omega)) (Int.ediv_le_self _ h0)
    · exact Int.tmod_eq_emod_of_nonneg h0)) hd h
theorem al_tmod {T yT : TypeId} {x y : Operand} {i j : Int} (h : AL P N ops Q s rest ((d, .lit (.int .i64 (i.tmod j))) :: e) m) (hx : ev e x = some (.lit (.int .i64 i)) := by exact rfl) (hy : ev e y = some (.lit (.int .i64 j)) := by exact rfl)
    (h1 : j ≠ 0 := by omega) (hd : Nat.blt d N = true := by exact rfl) : AL P N ops Q s (⟨some d, .binOp .rem T x y yT, ty, pos, af, none⟩ :: rest) e m :=
  al_lit rfl (fun ok w a ha => run_bin ha hx hy (by simp [binOp, Op.intDiv, h1])) hd h
theorem al_bits {op : BinOp} {T yT : TypeId} {k : IntKind} {x y : Operand} {i j : Int} {v : Value} (hv : v.oneCell' = true) (hx : ev e x = some (.lit (.int k i))) (hy : ev e y = some (.lit (.int k j))) (hc : ∀ w, (Op.intBits op k i j).run P w = .ok v w)
    (ho : op = .and ∨ op = .or ∨ op = .xor ∨ op = .andNot) (hd : Nat.blt d N = true) (h : AL P N ops Q s rest ((d, .lit v) :: e) m) :
    AL P N ops Q s (⟨some d, .binOp op T x y yT, ty, pos, af, none⟩ :: rest) e m :=
  al_lit hv (fun ok w a ha => run_bin ha hx hy (by rcases ho with rfl | rfl | rfl | rfl <;> simp [binOp, hc])) hd h
theorem al_shift {op : BinOp} {T yT : TypeId} {k yk : IntKind} {x y : Operand} {i j : Int} {v : Value} (hv : v.oneCell' = true) (hx : ev e x = some (.lit (.int k i))) (hy : ev e y = some (.lit (.int yk j))) (hc : ∀ w, (Op.shift op k i yk j).run P w = .ok v w)
    (ho : op = .shl ∨ op = .shr) (hd : Nat.blt d N = true) (h : AL P N ops Q s rest ((d, .lit v) :: e) m) :
    AL P N ops Q s (⟨some d, .binOp op T x y yT, ty, pos, af, none⟩ :: rest) e m :=
  al_lit hv (fun ok w a ha => by
    have hg : (eqGuard op T x y (.int k i) (.int yk j)).run P w = .ok () w := by
      unfold eqGuard
      split <;> rfl
    rcases ho with rfl | rfl <;> simp [execOp, ha.lit hx, ha.lit hy, hg, binOp, hc]) hd h
theorem al_not {T : TypeId} {x : Operand} {b : Bool} (h : AL P N ops Q s rest ((d, .lit (.bool (!b))) :: e) m) (hx : ev e x = some (.lit (.bool b)) := by exact rfl) (hd : Nat.blt d N = true := by exact rfl) : AL P N ops Q s (⟨some d, .unOp .not T x, ty, pos, af, none⟩ :: rest) e m :=
  al_lit rfl (fun ok w a ha => by simp [execOp, ha.lit hx, Op.unary]) hd h
theorem al_notD {T : TypeId} {x : Operand} {p : Prop} [Decidable p] (h : AL P N ops Q s rest ((d, .lit (.bool (decide (¬ p)))) :: e) m) (hx : ev e x = some (.lit (.bool (decide p))) := by exact rfl) (hd : Nat.blt d N = true := by exact rfl) : AL P N ops Q s (⟨some d, .unOp .not T x, ty, pos, af, none⟩ :: rest) e m :=
  al_not (by rw [decide_not] at h; exact h) hx hd
/-- integers to integers -/
theorem al_convI {S D : TypeId} {b : Bool} {kz : Nat} [tS : Ty P S b kz] {k k' : IntKind} [t : TyI P D k'] {x : Operand} {n : Int} (h : AL P N ops Q s rest ((d, .lit (.int k' (k'.wrap n))) :: e) m) (hx : ev e x = some (.lit (.int k n)) := by exact rfl) (hd : Nat.blt d N = true := by exact rfl) : AL P N ops Q s (⟨some d, .convert S D x, ty, pos, af, none⟩ :: rest) e m := by
  have := tS.out
  cases hu : P.underlying S with
  | none => simp [hu] at this
  | some dS => exact al_lit rfl (fun ok w a ha => by simp [execOp, ha.lit hx, convert, run_underlying hu, run_underlying t.out, Conv.intToInt]) hd h
/-- .. where nothing is lost -/
def fitsK (k' : IntKind) (n : Int) : Prop := k'.wrap n = n
theorem al_convK {S D : TypeId} {b : Bool} {kz : Nat} [tS : Ty P S b kz] {k k' : IntKind} [t : TyI P D k'] {x : Operand} {n : Int} (h : AL P N ops Q s rest ((d, .lit (.int k' n)) :: e) m) (hx : ev e x = some (.lit (.int k n)) := by exact rfl)
    (hf : k'.wrap n = n := by first | (rw [IntKind.wrap_i64]; omega) | (rw [IntKind.wrap_u64]; omega)) (hd : Nat.blt d N = true := by exact rfl) : AL P N ops Q s (⟨some d, .convert S D x, ty, pos, af, none⟩ :: rest) e m :=
  al_convI (by rw [hf]; exact h) hx hd

/-! texts -/
abbrev str (l : Bs) : AV := .lit (sv l)
abbrev int (n : Int) : AV := .lit (.int .i64 n)
abbrev boo (b : Bool) : AV := .lit (.bool b)
abbrev ptr (g : Nat) : AV := .lit (.pointer (some ⟨g, 0, none⟩))
theorem run_binS {op : BinOp} {T yT : TypeId} {x y : Operand} {i j : ByteArray} {v : Value} {ok : Ok} {w : World} {a : Act} (ha : Sat N ok w e a) (hx : ev e x = some (.lit (.string i))) (hy : ev e y = some (.lit (.string j)))
    (h : (Op.stringOp op i j).run P w = .ok v w) (ho : op ≠ .shl ∧ op ≠ .shr) : (execOp a.eval ⟨some d, .binOp op T x y yT, ty, pos, af, none⟩).run P w = .ok (.value v) w := by
  have hg : (eqGuard op T x y (.string i) (.string j)).run P w = .ok () w := by
    unfold eqGuard
    split <;> rfl
  have hb : binOp op T (.string i) (.string j) = Op.stringOp op i j := by cases op <;> rfl
  simp [execOp, ha.lit hx, ha.lit hy, hg, hb, h]
/-- a bound of a text's length -/
class LenLe (l : Bs) (n : outParam Nat) : Prop where
  out : l.length ≤ n
instance (priority := low) LenLe.lit0 : LenLe [] 0 := ⟨Nat.le_refl _⟩
instance LenLe.cons {c : UInt8} {l : Bs} {n : Nat} [h : LenLe l n] : LenLe (c :: l) (n + 1) := ⟨by simpa using h.out⟩
instance LenLe.app {a b : Bs} {n k : Nat} [h : LenLe a n] [g : LenLe b k] : LenLe (a ++ b) (n + k) := ⟨by have := h.out; have := g.out; simp; omega⟩
theorem al_cat {T yT : TypeId} {x y : Operand} {a b : Bs} (h : AL P N ops Q s rest ((d, str (a ++ b)) :: e) m) (hx : ev e x = some (str a) := by exact rfl) (hy : ev e y = some (str b) := by exact rfl) (hl : a.length + b.length ≤ 9223372036854775807 := by first | omega | (simp; omega)) (hd : Nat.blt d N = true := by exact rfl) : AL P N ops Q s (⟨some d, .binOp .add T x y yT, ty, pos, af, none⟩ :: rest) e m :=
  al_lit rfl (fun ok w A hA => run_binS hA hx hy (by
    have : ¬ ((a.length + b.length : Nat) : Int) > IntKind.i64.max := by simp [IntKind.max, IntKind.bits, IntKind.signed]; omega
    simp only [Op.stringOp, size_sv, this, if_false, append_sv]
    rfl) (by simp)) hd h
theorem al_catL {T yT : TypeId} {x y : Operand} {a b : Bs} {n k : Nat} (h : AL P N ops Q s rest ((d, str (a ++ b)) :: e) m) (hx : ev e x = some (str a) := by exact rfl) (hy : ev e y = some (str b) := by exact rfl) (ha : LenLe a n := by infer_instance) (hb : LenLe b k := by infer_instance) (hl : Nat.ble (n + k) 9223372036854775807 = true := by exact rfl) (hd : Nat.blt d N = true := by exact rfl) : AL P N ops Q s (⟨some d, .binOp .add T x y yT, ty, pos, af, none⟩ :: rest) e m :=
  al_cat h hx hy (by have := ha.out; have := hb.out; have := Nat.le_of_ble_eq_true hl; omega) hd
theorem al_cmpS {op : BinOp} {T yT : TypeId} {x y : Operand} {a b : Bs} {c : Bool} (h : AL P N ops Q s rest ((d, .lit (.bool c)) :: e) m) (hx : ev e x = some (str a) := by exact rfl) (hy : ev e y = some (str b) := by exact rfl) (hc : cmpS op a b = some c := by exact rfl) (hd : Nat.blt d N = true := by exact rfl) : AL P N ops Q s (⟨some d, .binOp op T x y yT, ty, pos, af, none⟩ :: rest) e m :=
  al_lit rfl (fun ok w A hA => run_binS hA hx hy (by
    have hq : ∀ a b : Bs, (a == b) = decide (a = b) := fun a b => by by_cases h : a = b <;> simp [h]
    cases op <;> (first | (cases hc; done) | (injection hc with hc; subst hc; simp only [Op.stringOp, toList_sv, blt, hq, ne_eq, decide_not]; rfl))) (by constructor <;> rintro rfl <;> simp [cmpS] at hc)) hd h
theorem al_lenS {T : TypeId} [t : TyT P T] {x : Operand} {a : Bs} (h : AL P N ops Q s rest ((d, int a.length) :: e) m) (hx : ev e x = some (str a) := by exact rfl) (hd : Nat.blt d N = true := by exact rfl) : AL P N ops Q s (⟨some d, .call ⟨.builtin .len, #[x], #[T]⟩, ty, pos, af, none⟩ :: rest) e m :=
  al_lit rfl (fun ok w A hA => by simp [execOp, resolve, invoke, builtin, hA.lit hx, Builtin.len_, run_underlying t.out, size_sv, goInt]) hd h
theorem al_min {x y : Operand} {ts : Array TypeId} {k k' : IntKind} {i j : Int} (h : AL P N ops Q s rest ((d, .lit (.int k (min i j))) :: e) m) (hx : ev e x = some (.lit (.int k i)) := by exact rfl) (hy : ev e y = some (.lit (.int k' j)) := by exact rfl) (hd : Nat.blt d N = true := by exact rfl) : AL P N ops Q s (⟨some d, .call ⟨.builtin .min, #[x, y], ts⟩, ty, pos, af, none⟩ :: rest) e m :=
  al_lit rfl (fun ok w A hA => by
    have hm : (if j < i then j else i) = min i j := by
      split <;> omega
    simp [execOp, resolve, hA.lit hx, hA.lit hy, invoke, builtin, Builtin.min_, Builtin.min2, hm]) hd h
theorem al_max {x y : Operand} {ts : Array TypeId} {k k' : IntKind} {i j : Int} (h : AL P N ops Q s rest ((d, .lit (.int k (max i j))) :: e) m) (hx : ev e x = some (.lit (.int k i)) := by exact rfl) (hy : ev e y = some (.lit (.int k' j)) := by exact rfl) (hd : Nat.blt d N = true := by exact rfl) : AL P N ops Q s (⟨some d, .call ⟨.builtin .max, #[x, y], ts⟩, ty, pos, af, none⟩ :: rest) e m :=
  al_lit rfl (fun ok w A hA => by
    have hm : (if i < j then j else i) = max i j := by
      split <;> omega
    simp [execOp, resolve, hA.lit hx, hA.lit hy, invoke, builtin, Builtin.max_, Builtin.max2, hm]) hd h
theorem al_nilCheck {x : Operand} {p : Addr} (h : AL P N ops Q s rest ((d, .lit (.pointer (some p))) :: e) m) (hx : ev e x = some (.lit (.pointer (some p))) := by exact rfl) (hd : Nat.blt d N = true := by exact rfl) : AL P N ops Q s (⟨some d, .nilCheck x, ty, pos, af, none⟩ :: rest) e m :=
  al_lit rfl (fun ok w A hA => by simp [execOp, hA.lit hx]) hd h
theorem RVs.get {ok : Ok} {w : World} : ∀ {as : List AV} {vs : List Value} {i : Nat} {a : AV}, RVs ok w as vs → as[i]? = some a → ∃ v, vs[i]? = some v ∧ RV0 ok w a v
  | [], _, i, a, _, h => by simp at h
  | b :: as, _, 0, a, ⟨u, us, h1, h2, _⟩, h => by
    simp at h
    subst h h1
    exact ⟨u, rfl, h2⟩
  | b :: as, _, i + 1, a, ⟨u, us, h1, _, h3⟩, h => by
    subst h1
    simpa using RVs.get h3 (by simpa using h)
theorem al_extract {x : Operand} {i : Nat} {vs : List AV} {v : AV} (h : AL P N ops Q s rest ((d, v) :: e) m) (hx : ev e x = some (.tup vs) := by exact rfl) (hv : vs[i]? = some v := by exact rfl) (hd : Nat.blt d N = true := by exact rfl) : AL P N ops Q s (⟨some d, .extract x i, ty, pos, af, none⟩ :: rest) e m :=
  al_val (fun ok w a _ ha => by
    obtain ⟨us, h1, h2⟩ := (show ∃ us : List Value, a.eval x = .tuple us.toArray ∧ RVs ok w vs us from ha.eval hx)
    obtain ⟨u, h3, h4⟩ := h2.get hv
    have h3' : us.toArray[i]? = some u := by simpa using h3
    exact ⟨u, by simp [execOp, h1, Instr.extract, h3], RV.of0 h4⟩) hd h
end
attribute [irreducible] AL AC AE
end Av

namespace Av
open Go Go.RowKit Tw
/-- a piece among the pieces, and another one put in its place -/
inductive Upd : List Piece → Piece → Piece → List Piece → Prop
  | here {p p' : Piece} {m : List Piece} : Upd (p :: m) p p' (p' :: m)
  | there {q p p' : Piece} {m m' : List Piece} : Upd m p p' m' → Upd (q :: m) p p' (q :: m')
theorem Upd.parts {m m' : List Piece} {p p' : Piece} (h : Upd m p p' m') : ∃ pre post, m = pre ++ p :: post ∧ m' = pre ++ p' :: post := by
  induction h with
  | here => exact ⟨[], _, rfl, rfl⟩
  | there _ ih =>
    obtain ⟨pre, post, h1, h2⟩ := ih
    exact ⟨_ :: pre, post, by rw [h1]; rfl, by rw [h2]; rfl⟩
inductive Has : List Piece → Piece → Prop
  | here {p : Piece} {m : List Piece} : Has (p :: m) p
  | there {q p : Piece} {m : List Piece} : Has m p → Has (q :: m) p
theorem Has.mem {m : List Piece} {p : Piece} (h : Has m p) : p ∈ m := by
  induction h with
  | here => simp
  | there _ ih => simp [ih]

/-! zero values, by what they hold -/
def catO : List (Option (List Value)) → Option (List Value)
  | [] => some []
  | some a :: r => (match catO r with | some b => some (a ++ b) | none => none)
  | none :: _ => none
def cellsA : Nat → AV → Option (List Value)
  | 0, _ => none
  | _ + 1, .lit v => bif v.oneCell' then some [v] else none
  | f + 1, .agg n ps => (match catO (ps.map (cellsA f)) with
    | some cs => bif Nat.beq cs.length n then some cs else none
    | none => none)
  | _ + 1, _ => none
theorem catO_spec {ok : Ok} {w : World} {f : AV → Option (List Value)} : ∀ {ps : List AV} {cs : List Value}, catO (ps.map f) = some cs → (∀ p ∈ ps, ∀ c, f p = some c → RC ok w p c) → RCs ok w ps cs
  | [], cs, h, _ => by
    simp [catO] at h
    subst h
    rw [RCs]
  | p :: ps, cs, h, hf => by
    rw [List.map_cons] at h
    cases hp : f p with
    | none => simp [hp, catO] at h
    | some a =>
      cases hr : catO (ps.map f) with
      | none => simp [hp, catO, hr] at h
      | some b =>
        simp [hp, catO, hr] at h
        subst h
        rw [RCs]
        exact ⟨a, b, rfl, hf p (by simp) a hp, catO_spec hr fun q hq => hf q (by simp [hq])⟩
theorem cellsA_spec {ok : Ok} {w : World} : ∀ {f : Nat} {a : AV} {cs : List Value}, cellsA f a = some cs → RC ok w a cs
  | 0, a, cs, h => by simp [cellsA] at h
  | f + 1, .lit v, cs, h => by
    unfold cellsA at h
    cases hv : v.oneCell' with
    | false => simp [hv] at h
    | true =>
      simp [hv] at h
      subst h
      rw [RC]
      exact ⟨rfl, hv⟩
  | f + 1, .agg n ps, cs, h => by
    unfold cellsA at h
    split at h
    · rename_i c hc
      cases hb : Nat.beq c.length n with
      | false => simp [hb] at h
      | true =>
        simp [hb] at h
        subst h
        rw [RC]
        exact ⟨Nat.eq_of_beq_eq_true hb, catO_spec hc fun p _ c' hc' => cellsA_spec hc'⟩
    · cases h
  | f + 1, .sl .., cs, h => by simp [cellsA] at h
  | f + 1, .pd .., cs, h => by simp [cellsA] at h
  | f + 1, .tup .., cs, h => by simp [cellsA] at h
/-- type T's zero value -/
class TyO (P : Program) (T : TypeId) (z : outParam AV) : Prop where
  out : ((P.info? T).map fun i => i.zero.map fun v => (v.cells.toList, isAggV v)) = some ((cellsA 8 z).map fun cs => (cs, z.isAgg))
  is : (cellsA 8 z).isSome = true
theorem TyO.run {P : Program} {T : TypeId} {z : AV} (t : TyO P T z) (w : World) : ∃ v cs, (zeroValue T).run P w = .ok v w ∧ v.cells.toList = cs ∧ isAggV v = z.isAgg ∧ cellsA 8 z = some cs := by
  have h1 := t.out
  have h2 := t.is
  cases hc : cellsA 8 z with
  | none => simp [hc] at h2
  | some cs =>
    cases hq : P.info? T with
    | none => simp [hq] at h1
    | some i =>
      cases hz : i.zero with
      | none => simp [hq, hz, hc] at h1
      | some v =>
        simp [hq, hz, hc] at h1
        exact ⟨v, cs, by simp [zeroValue, typeInfo, hq, hz], h1.1, h1.2, rfl⟩
/-- a slice type: its elements' type, how many cells and bytes these have -/
class TyE (P : Program) (S : TypeId) (E : outParam TypeId) (k : outParam Nat) (b : outParam Nat) : Prop where
  l : TyL P S E k b
  z : ((P.info? E).map fun i => i.zero.map (·.cells.size)) = some (some k)
  k0 : Nat.blt 0 k = true

section
variable {P : Program} {N : Nat} {ops : Array Oper} {Q : Exit → Act → World → Prop} {rest : List Oper} {s : Base} {e : Env} {m : List Piece} {d : Nat} {ty : TypeId} {pos : String} {af : Array Edge}
/-- an operation that turns the world -/
theorem al_step {op : Op} {v : AV} (hrun : ∀ ok w a, St s ok m w → Sat N ok w e a → ∃ u w' ok' m', (execOp a.eval ⟨some d, op, ty, pos, af, none⟩).run P w = .ok (.value u) w' ∧ RV ok' w' v u ∧ St s ok' m' w' ∧ Stp ok w ok' w' ∧ AL P N ops Q s rest ((d, v) :: e) m') (hd : Nat.blt d N = true) :
    AL P N ops Q s (⟨some d, op, ty, pos, af, none⟩ :: rest) e m := AL.mk fun ok w a hS ha =>
  wpList_plain rfl fun K hK => by
    obtain ⟨u, w', ok', m', h1, h2, h3, h4, h5⟩ := hrun ok w a hS ha
    unfold Oper.wp
    rw [h1]
    exact hK _ _ (h5.run _ _ _ h3 ((ha.stp h4).put h2 hd))
theorem al_stepV {op : Op} (hrun : ∀ ok w a, St s ok m w → Sat N ok w e a → ∃ v u w' ok' m', (execOp a.eval ⟨some d, op, ty, pos, af, none⟩).run P w = .ok (.value u) w' ∧ RV ok' w' v u ∧ St s ok' m' w' ∧ Stp ok w ok' w' ∧ AL P N ops Q s rest ((d, v) :: e) m') (hd : Nat.blt d N = true) :
    AL P N ops Q s (⟨some d, op, ty, pos, af, none⟩ :: rest) e m := AL.mk fun ok w a hS ha =>
  wpList_plain rfl fun K hK => by
    obtain ⟨v, u, w', ok', m', h1, h2, h3, h4, h5⟩ := hrun ok w a hS ha
    unfold Oper.wp
    rw [h1]
    exact hK _ _ (h5.run _ _ _ h3 ((ha.stp h4).put h2 hd))
theorem al_skip {op : Op} {m' : List Piece} (hrun : ∀ ok w a, St s ok m w → Sat N ok w e a → ∃ w' ok', (execOp a.eval ⟨none, op, ty, pos, af, none⟩).run P w = .ok .skip w' ∧ St s ok' m' w' ∧ Stp ok w ok' w') (h : AL P N ops Q s rest e m') :
    AL P N ops Q s (⟨none, op, ty, pos, af, none⟩ :: rest) e m := AL.mk fun ok w a hS ha =>
  wpList_plain rfl fun K hK => by
    obtain ⟨w', ok', h1, h3, h4⟩ := hrun ok w a hS ha
    unfold Oper.wp
    rw [h1]
    exact hK _ _ (h.run _ _ _ h3 (ha.stp h4))

theorem RVl {ok : Ok} {w : World} {v : Value} (h : v.oneCell' = true) : RV ok w (.lit v) v := (RV0.of_lit h : RV0 ok w (.lit v) v)
/-! loading -/
theorem run_loadVar_es {T : TypeId} {a : Bool} {k : Nat} (t : Ty P T a k) {ok : Ok} {w : World} {b o : Nat} {u : AV} {es : List Value} (hr : ∀ j v, es[j]? = some v → w.cell? ⟨b, o + j, none⟩ = some v) (hu : RC ok w u es) (hk : es.length = k) (ha : u.isAgg = a) :
    (loadVar T ⟨b, o, none⟩).run P w = .ok (mk a es) w := by
  unfold loadVar
  rw [Sem.run_bind, run_isAgg t]
  cases a with
  | true =>
    have hl := run_loadCells_list (P := P) w ⟨b, o, none⟩ es (fun j v hv => by rw [add_mid]; exact hr j v hv)
    rw [hk] at hl
    simp [run_sizeOf t.sz, hl, mk]
  | false =>
    have h1 : es.length = 1 := by
      rw [hu.len]
      cases u <;> first | rfl | simp [AV.isAgg] at ha
    obtain ⟨v, rfl⟩ := List.length_eq_one_iff.1 h1
    have hc : w.cell? ⟨b, o, none⟩ = some v := by simpa using hr 0 v rfl
    simp [load, Sem.run, hc, mk]
theorem var_cells {w : World} {g : Nat} {T : TypeId} {cs : List Value} (hb : w.heap[g]? = some (.cells cs.toArray T (0, 0))) {x c y : List Value} (he : cs = x ++ c ++ y) : ∀ j v, c[j]? = some v → w.cell? ⟨g, x.length + j, none⟩ = some v := fun j v hv => by
  rw [cell_of_row w g (x.length + j) _ T (0, 0) hb]
  subst he
  have hj : j < c.length := (List.getElem?_eq_some_iff.1 hv).1
  simp only [List.getElem?_toArray, List.append_assoc]
  rw [List.getElem?_append_right (by omega), Nat.add_sub_cancel_left, List.getElem?_append_left hj]
  exact hv
/-- out of a variable of one's own -/
theorem al_load {T : TypeId} {a : Bool} {k : Nat} [t : Ty P T a k] {x : Operand} {g o : Nat} {T0 : TypeId} {v u : AV} (h : AL P N ops Q s rest ((d, u) :: e) m) (hx : ev e x = some (.lit (.pointer (some ⟨g, o, none⟩))) := by exact rfl)
    (hm : Has m (.var g T0 v) := by (repeat (first | exact Av.Has.here | apply Av.Has.there))) (hv : getV a k 8 v o = some u := by exact rfl) (hd : Nat.blt d N = true := by exact rfl) : AL P N ops Q s (⟨some d, .load T x, ty, pos, af, none⟩ :: rest) e m :=
  al_val (fun ok w A hS hA => by
    obtain ⟨cs, hb, hg⟩ := hS.at_ _ hm.mem
    obtain ⟨x', c, y, e1, e2, e3, e4, e5⟩ := getV_spec hv hg
    have hr := run_loadVar_es (P := P) t (b := g) (o := o) (fun j v hv => by rw [← e2]; exact var_cells hb e1 j v hv) e4 e3 e5
    exact ⟨_, by simp [execOp, hA.lit hx, Instr.loadAt, Instr.sureAddr, hr], RV.of0 (e5 ▸ RV0.mk e4)⟩) hd h
/-- out of data -/
theorem al_loadD {T : TypeId} {a : Bool} {k : Nat} [t : Ty P T a k] {x : Operand} {v u : AV} (h : AL P N ops Q s rest ((d, u) :: e) m) (hx : ev e x = some (.pd v) := by exact rfl)
    (hv : getV a k 8 v 0 = some u := by exact rfl) (hd : Nat.blt d N = true := by exact rfl) : AL P N ops Q s (⟨some d, .load T x, ty, pos, af, none⟩ :: rest) e m :=
  al_val (fun ok w A _ hA => by
    have hp := (show RV0 ok w (.pd v) (A.eval x) from hA.eval hx)
    have h1 := hp.1
    rw [RC, cells_of_not hp.2.symm] at h1
    obtain ⟨b, o, es, h1, h2, h3⟩ := h1
    have h1 : A.eval x = .pointer (some ⟨b, o, none⟩) := by simpa using h1
    obtain ⟨x', c, y, e1, e2, e3, e4, e5⟩ := getV_spec hv h3
    have hx' : x' = [] := List.eq_nil_of_length_eq_zero e2
    subst hx' e1
    have hr := run_loadVar_es (P := P) (w := w) t (b := b) (o := o) (es := c) (fun j v hv => (h2 j v (by
      have hj : j < c.length := (List.getElem?_eq_some_iff.1 hv).1
      rw [List.nil_append, List.getElem?_append_left hj]; exact hv)).1) e4 e3 e5
    exact ⟨_, by simp [execOp, h1, Instr.loadAt, Instr.sureAddr, hr], RV.of0 (e5 ▸ RV0.mk e4)⟩) hd h
/-- out of a variable that never turns -/
theorem al_loadG {T : TypeId} {a : Bool} {k : Nat} [t : Ty P T a k] {x : Operand} {g o : Nat} {v u : AV} (h : AL P N ops Q s rest ((d, u) :: e) m) (hx : ev e x = some (.lit (.pointer (some ⟨g, o, none⟩))) := by exact rfl)
    (hg : (g, v) ∈ s.gl) (hv : getV a k 8 v o = some u) (hd : Nat.blt d N = true := by exact rfl) : AL P N ops Q s (⟨some d, .load T x, ty, pos, af, none⟩ :: rest) e m :=
  al_val (fun ok w A hS hA => by
    obtain ⟨es, h2, h3⟩ := hS.gl _ hg
    obtain ⟨x', c, y, e1, e2, e3, e4, e5⟩ := getV_spec hv h3
    subst e1
    have hr := run_loadVar_es (P := P) (w := w) t (b := g) (o := o) (es := c) (fun j v hv => by
      have hj : j < c.length := (List.getElem?_eq_some_iff.1 hv).1
      have := (h2 (x'.length + j) v (by rw [List.append_assoc, List.getElem?_append_right (by omega), Nat.add_sub_cancel_left, List.getElem?_append_left hj]; exact hv)).1
      simpa [e2] using this) e4 e3 e5
    exact ⟨_, by simp [execOp, hA.lit hx, Instr.loadAt, Instr.sureAddr, hr], RV.of0 (e5 ▸ RV0.mk e4)⟩) hd h

/-! storing -/
theorem al_store {T : TypeId} {a : Bool} {k : Nat} [t : Ty P T a k] {x y : Operand} {g o : Nat} {T0 : TypeId} {v v' u : AV} {m' : List Piece} (h : AL P N ops Q s rest e m') (hx : ev e x = some (.lit (.pointer (some ⟨g, o, none⟩))) := by exact rfl)
    (hy : ev e y = some u := by exact rfl) (hu : Upd m (.var g T0 v) (.var g T0 v') m' := by (repeat (first | apply Av.Upd.here | apply Av.Upd.there))) (hp : putV u 8 v o = some v' := by exact rfl) (hk : Nat.beq u.size k = true := by exact rfl) (hn : noTup u = true := by exact rfl) :
    AL P N ops Q s (⟨none, .store T x y, ty, pos, af, none⟩ :: rest) e m :=
  al_skip (fun ok w A hS hA => by
    obtain ⟨pre, post, rfl, rfl⟩ := hu.parts
    obtain ⟨cs, hb, hg⟩ := hS.at_ (.var g T0 v) (by simp)
    have hv0 := (hA.eval hy).to0 (by rintro vs rfl; simp [noTup] at hn)
    obtain ⟨p, q, r, e1, e2, e3, e4, e5, e6⟩ := putV_spec hv0.1 hp hg
    have hk := Nat.eq_of_beq_eq_true hk
    have hlen : (A.eval y).cells.toList.length = k := by rw [hv0.1.len, hk]
    have hsz : (A.eval y).cells.size = k := by simpa using hlen
    have hrun := run_storeVar_at (P := P) t.sz (v := A.eval y) (o := o) hb hsz (by simp [e1]; omega) (hv0.1.one)
    have hC : (cs.toArray.toList.take o ++ (A.eval y).cells.toList ++ cs.toArray.toList.drop (o + k)) = p ++ (A.eval y).cells.toList ++ r := by
      simp only [e1]
      have h1 : (p ++ q ++ r).take o = p := by rw [← e2, List.append_assoc, List.take_left]
      have h2 : (p ++ q ++ r).drop (o + k) = r := by rw [← e2, show k = q.length by omega, ← List.length_append, List.drop_left]
      rw [h1, h2]
    rw [hC] at hrun
    obtain ⟨h1, h2⟩ := hS.writeVar (cs' := p ++ (A.eval y).cells.toList ++ r) e4 (fun cs2 hb2 => by
      rw [hb] at hb2
      injection hb2 with hb2
      injection hb2 with hb2
      have : cs = cs2 := by simpa using congrArg Array.toList hb2
      subst this
      simp [e1]; omega)
    exact ⟨_, ok, by simp [execOp, hA.lit hx, Instr.storeAt, Instr.sureAddr, hrun], h1, h2⟩) h

/-! new variables -/
theorem al_alloc {T : TypeId} {z : AV} [t : TyO P T z] (h : ∀ g, AL P N ops Q s rest ((d, ptr g) :: e) (.var g T z :: m)) (hd : Nat.blt d N = true := by exact rfl) : AL P N ops Q s (⟨some d, .alloc T, ty, pos, af, none⟩ :: rest) e m :=
  al_stepV (fun ok w A hS hA => by
    obtain ⟨v, cs, h1, h2, h3, h4⟩ := t.run w
    obtain ⟨ok', g1, g2⟩ := hS.newVar T (cellsA_spec h4)
    have hc : v.cells = cs.toArray := by rw [← h2]
    exact ⟨_, .pointer (some ⟨w.heap.size, 0, none⟩), w.alloc (.cells cs.toArray T), ok', _, by simp [execOp, Instr.alloc, h1, newVar, newRow, newObj, Sem.run, hc], RVl rfl, g1, g2, h w.heap.size⟩) hd
theorem al_box {T : TypeId} {x : Operand} {v : AV} (h : ∀ g, AL P N ops Q s rest ((d, ptr g) :: e) (.var g T v :: m)) (hx : ev e x = some v := by exact rfl) (hn : noTup v = true := by exact rfl) (hd : Nat.blt d N = true := by exact rfl) : AL P N ops Q s (⟨some d, .box T x, ty, pos, af, none⟩ :: rest) e m :=
  al_stepV (fun ok w A hS hA => by
    have hv0 := (hA.eval hx).to0 (by rintro vs rfl; simp [noTup] at hn)
    obtain ⟨ok', g1, g2⟩ := hS.newVar T hv0.1
    exact ⟨_, .pointer (some ⟨w.heap.size, 0, none⟩), w.alloc (.cells (A.eval x).cells T), ok', _, by simp [execOp, Instr.box, newVar, newRow, newObj, Sem.run], RVl rfl, by simpa using g1, by simpa using g2, h w.heap.size⟩) hd

/-! fields, elements -/
theorem al_fieldAddr {S : TypeId} {l : List (TypeId × Nat × Nat)} [t : TyS P S l] {x : Operand} {i : Nat} {b o T off z : Nat} (h : AL P N ops Q s rest ((d, .lit (.pointer (some ⟨b, o + off, none⟩))) :: e) m) (hx : ev e x = some (.lit (.pointer (some ⟨b, o, none⟩))) := by exact rfl) (hi : l[i]? = some (T, off, z) := by exact rfl) (hz : Nat.beq z 0 = false := by exact rfl) (hd : Nat.blt d N = true := by exact rfl) :
    AL P N ops Q s (⟨some d, .fieldAddr S x i, ty, pos, af, none⟩ :: rest) e m := by
  obtain ⟨fs, hu, _, hfs⟩ := structOf_spec t.out
  obtain ⟨f, hfi, hft, hfo, hfz⟩ := hfs i T off z hi
  have hzne : z ≠ 0 := Nat.ne_of_beq_eq_false hz
  subst hft
  subst hfo
  exact al_lit rfl (fun ok w A hA => by simp [execOp, hA.lit hx, Instr.fieldAt, run_underlying hu, hfi, Instr.sureAddr, fieldPlace, run_sizeOf hfz, hzne, add_mid]) hd h
theorem pd_run {ok : Ok} {w : World} {v : AV} {u : Value} (hp : RV ok w (.pd v) u) : ∃ b o es, u = .pointer (some ⟨b, o, none⟩) ∧ At ok w b o es ∧ RC ok w v es := by
  have hp := (show RV0 ok w (.pd v) u from hp)
  have h1 := hp.1
  rw [RC, cells_of_not hp.2.symm] at h1
  obtain ⟨b, o, es, h1, h2, h3⟩ := h1
  exact ⟨b, o, es, by simpa using h1, h2, h3⟩
theorem RV.pd {ok : Ok} {w : World} {v : AV} {b o : Nat} {es : List Value} (h : At ok w b o es) (hv : RC ok w v es) : RV ok w (.pd v) (.pointer (some ⟨b, o, none⟩)) := by
  refine ⟨?_, rfl⟩
  rw [RC]
  exact ⟨b, o, es, rfl, h, hv⟩
theorem At.mid {ok : Ok} {w : World} {b o : Nat} {x c y : List Value} (h : At ok w b o (x ++ c ++ y)) : At ok w b (o + x.length) c := fun j v hv => by
  have hj : j < c.length := (List.getElem?_eq_some_iff.1 hv).1
  have := h (x.length + j) v (by rw [List.append_assoc, List.getElem?_append_right (by omega), Nat.add_sub_cancel_left, List.getElem?_append_left hj]; exact hv)
  rwa [← Nat.add_assoc] at this
theorem al_fieldAddrD {S : TypeId} {l : List (TypeId × Nat × Nat)} [t : TyS P S l] {x : Operand} {i : Nat} {T off z : Nat} {a : Bool} {v u : AV} (h : AL P N ops Q s rest ((d, .pd u) :: e) m) (hx : ev e x = some (.pd v) := by exact rfl) (hi : l[i]? = some (T, off, z) := by exact rfl) (tT : Ty P T a z := by infer_instance) (hz : Nat.beq z 0 = false := by exact rfl) (hv : getV a z 8 v off = some u := by exact rfl) (hd : Nat.blt d N = true := by exact rfl) :
    AL P N ops Q s (⟨some d, .fieldAddr S x i, ty, pos, af, none⟩ :: rest) e m := by
  obtain ⟨fs, hu, _, hfs⟩ := structOf_spec t.out
  obtain ⟨f, hfi, hft, hfo, hfz⟩ := hfs i T off z hi
  have hzne : z ≠ 0 := Nat.ne_of_beq_eq_false hz
  subst hft
  subst hfo
  exact al_val (fun ok w A _ hA => by
    obtain ⟨b, o, es, h1, h2, h3⟩ := pd_run (hA.eval hx)
    obtain ⟨x', c, y, rfl, e2, e3, e4, e5⟩ := getV_spec hv h3
    exact ⟨.pointer (some ⟨b, o + f.offset, none⟩), by simp [execOp, h1, Instr.fieldAt, run_underlying hu, hfi, Instr.sureAddr, fieldPlace, run_sizeOf hfz, hzne, add_mid], RV.pd (by rw [← e2]; exact h2.mid) e4⟩) hd h
/-- a part of a value that is a row -/
theorem run_part {T : TypeId} {a : Bool} {k : Nat} (t : Ty P T a k) {ok : Ok} {w : World} {x c y : List Value} {u : AV} (hu : RC ok w u c) (hk : c.length = k) (ha : u.isAgg = a) : (part T (x ++ c ++ y).toArray x.length).run P w = .ok (mk a c) w := by
  unfold part
  cases a with
  | true =>
    simp only [Sem.run_bind, run_isAgg t, Result.andThen_ok, if_true, run_sizeOf t.sz, Sem.run_pure]
    congr 1
    unfold mk
    simp only [cond_true]
    congr 1
    apply Array.ext'
    rw [Array.toList_extract]
    simp only [List.extract, ← hk, Nat.add_sub_cancel_left]
    rw [List.append_assoc, List.drop_left, List.take_left]
  | false =>
    have h1 : c.length = 1 := by
      rw [hu.len]
      cases u <;> first | rfl | simp [AV.isAgg] at ha
    obtain ⟨v, rfl⟩ := List.length_eq_one_iff.1 h1
    have h2 : (x ++ [v] ++ y).toArray[x.length]? = some v := by simp
    simp only [Sem.run_bind, run_isAgg t, Result.andThen_ok, Bool.false_eq_true, if_false, h2, Sem.run_pure]
    rfl
theorem agg_run {ok : Ok} {w : World} {n : Nat} {ps : List AV} {u : Value} (h : RV ok w (.agg n ps) u) : ∃ cs : List Value, u = .agg cs.toArray ∧ RC ok w (.agg n ps) cs := by
  have h := (show RV0 ok w (.agg n ps) u from h)
  refine ⟨u.cells.toList, ?_, h.1⟩
  have := agg_of h.2.symm
  rw [this]
  simp [Value.cells]
/-- a field of a value -/
theorem al_field {S : TypeId} {l : List (TypeId × Nat × Nat)} [t : TyS P S l] {x : Operand} {i : Nat} {T off z n : Nat} {a : Bool} {ps : List AV} {u : AV} (h : AL P N ops Q s rest ((d, u) :: e) m) (hx : ev e x = some (.agg n ps) := by exact rfl) (hi : l[i]? = some (T, off, z) := by exact rfl) (tT : Ty P T a z := by infer_instance) (hv : getV a z 8 (.agg n ps) off = some u := by exact rfl) (hd : Nat.blt d N = true := by exact rfl) :
    AL P N ops Q s (⟨some d, .field S x i, ty, pos, af, none⟩ :: rest) e m := by
  obtain ⟨fs, hu, _, hfs⟩ := structOf_spec t.out
  obtain ⟨f, hfi, hft, hfo, hfz⟩ := hfs i T off z hi
  subst hft
  subst hfo
  exact al_val (fun ok w A _ hA => by
    obtain ⟨cs, h1, h2⟩ := agg_run (hA.eval hx)
    obtain ⟨x', c, y, rfl, e2, e3, e4, e5⟩ := getV_spec hv h2
    have hr := run_part (P := P) (w := w) (x := x') (y := y) tT e4 e3 e5
    exact ⟨_, by simp only [execOp, h1, Instr.field, run_underlying hu, Sem.run_bind, Result.andThen_ok, hfi, asAgg, Sem.run_pure, ← e2, hr], RV.of0 (e5 ▸ RV0.mk e4)⟩) hd h
/-- a byte of a text -/
theorem al_idxS {T : TypeId} [t : TyT P T] {x ix : Operand} {kd : IntKind} {i : Int} {b : Bs} {c : UInt8} (j : Nat) (h : AL P N ops Q s rest ((d, .lit (u8v c)) :: e) m) (hc : b[j]? = some c) (hx : ev e x = some (str b) := by exact rfl) (hi : ev e ix = some (.lit (.int kd i)) := by exact rfl) (hj : i = (j : Int) := by first | exact rfl | omega) (hd : Nat.blt d N = true := by exact rfl) :
    AL P N ops Q s (⟨some d, .index T x ix, ty, pos, af, none⟩ :: rest) e m :=
  al_lit rfl (fun ok w A hA => by
    have h1 : (⟨b.toArray⟩ : ByteArray)[j]? = some c := by
      obtain ⟨hlt, he⟩ := List.getElem?_eq_some_iff.1 hc
      have hlt' : j < (⟨b.toArray⟩ : ByteArray).size := by rw [size_sv]; exact hlt
      rw [getElem?_pos (⟨b.toArray⟩ : ByteArray) j hlt']
      congr 1
    have h0 : (0 : Int) ≤ (j : Int) := by omega
    subst hj
    simp only [execOp, hA.lit hx, hA.lit hi, Instr.index, asIntOf, Sem.run_bind, Sem.run_pure, Result.andThen_ok, run_underlying t.out, h0, if_true, Int.toNat_natCast, h1]
    rfl) hd h
theorem sl_run {ok : Ok} {w : World} {k : Nat} {xs : List AV} {id : Option Value} {u : Value} (h : RV ok w (.sl k xs id) u) : ∃ A c, u = .slice A xs.length c ∧ (∀ v, id = some v → v = u) ∧ xs.length ≤ c ∧ c ≤ maxLen ∧
    (0 < xs.length → ∃ b o es, A = some ⟨b, o, none⟩ ∧ es.length = xs.length * k ∧ At ok w b o es ∧ RCs ok w xs es) ∧ ∀ x ∈ xs, x.size = k := by
  have h := (show RV0 ok w (.sl k xs id) u from h)
  obtain ⟨h1, h2⟩ := h
  rw [RC, cells_of_not h2.symm] at h1
  obtain ⟨A, c, g1, g2, g3⟩ := h1
  have g1 : u = .slice A xs.length c := by simpa using g1
  exact ⟨A, c, g1, fun v hv => by rw [g1]; exact g2 v hv, g3⟩
theorem RV.sl {ok : Ok} {w : World} {k n : Nat} {xs : List AV} {A : Option Addr} {c : Nat} {id : Option Value} (hn : n = xs.length) (hid : ∀ v, id = some v → v = .slice A n c) (h1 : n ≤ c) (h2 : c ≤ maxLen) (h3 : 0 < n → ∃ b o es, A = some ⟨b, o, none⟩ ∧ es.length = n * k ∧ At ok w b o es ∧ RCs ok w xs es) (h4 : ∀ x ∈ xs, x.size = k) :
    RV ok w (.sl k xs id) (.slice A n c) := by
  subst hn
  refine ⟨?_, rfl⟩
  rw [RC]
  exact ⟨A, c, rfl, hid, h1, h2, h3, h4⟩
theorem al_lenL {T E : TypeId} {k b : Nat} [t : TyL P T E k b] {x : Operand} {kz : Nat} {xs : List AV} {id : Option Value} (h : AL P N ops Q s rest ((d, int xs.length) :: e) m) (hx : ev e x = some (.sl kz xs id) := by exact rfl) (hd : Nat.blt d N = true := by exact rfl) : AL P N ops Q s (⟨some d, .call ⟨.builtin .len, #[x], #[T]⟩, ty, pos, af, none⟩ :: rest) e m :=
  al_lit rfl (fun ok w B hB => by
    obtain ⟨A, c, h1, _⟩ := sl_run (hB.eval hx)
    simp [execOp, resolve, invoke, builtin, h1, Builtin.len_, run_underlying t.out, goInt]) hd h
theorem al_lenLit {T E : TypeId} {k b : Nat} [t : TyL P T E k b] {x : Operand} {A : Option Addr} {n c : Nat} (h : AL P N ops Q s rest ((d, int n) :: e) m) (hx : ev e x = some (.lit (.slice A n c)) := by exact rfl) (hd : Nat.blt d N = true := by exact rfl) : AL P N ops Q s (⟨some d, .call ⟨.builtin .len, #[x], #[T]⟩, ty, pos, af, none⟩ :: rest) e m :=
  al_lit rfl (fun ok w B hB => by simp [execOp, resolve, invoke, builtin, hB.lit hx, Builtin.len_, run_underlying t.out, goInt]) hd h
/-- an element's place: data -/
theorem al_idxD {S E : TypeId} {k bS : Nat} [t : TyL P S E k bS] {x ix : Operand} {kd : IntKind} {i : Int} {xs : List AV} {id : Option Value} {u : AV} (j : Nat) (h : AL P N ops Q s rest ((d, .pd u) :: e) m) (hx : ev e x = some (.sl k xs id) := by exact rfl) (hi : ev e ix = some (.lit (.int kd i)) := by exact rfl) (hj : i = (j : Int) := by first | exact rfl | omega) (hu : xs[j]? = some u := by exact rfl) (hd : Nat.blt d N = true := by exact rfl) :
    AL P N ops Q s (⟨some d, .indexAddr S x ix, ty, pos, af, none⟩ :: rest) e m :=
  al_val (fun ok w B _ hB => by
    obtain ⟨A, c, h1, _, h3, h4, h5, h6⟩ := sl_run (hB.eval hx)
    obtain ⟨hlt, he⟩ := List.getElem?_eq_some_iff.1 hu
    obtain ⟨b, o, es, g1, g2, g3, g4⟩ := h5 (by omega)
    obtain ⟨x', c', y', rfl, f2, f3, f4⟩ := g4.at_ h6 hlt
    have hin : (0 : Int) ≤ (j : Int) ∧ (j : Int) < (xs.length : Nat) := by omega
    subst g1 hj
    refine ⟨.pointer (some ⟨b, o + j * k, none⟩), ?_, RV.pd (by rw [← f2]; exact g3.mid) (he ▸ f4)⟩
    simp only [execOp, h1, hB.lit hi, Instr.indexAt, asIntOf, Sem.run_bind, Sem.run_pure, Result.andThen_ok, run_underlying t.out, hin, and_self, if_true, run_sizeOf t.size, Int.toNat_natCast, add_mid]) hd h
theorem al_idxM {S E : TypeId} {k bS : Nat} [t : TyL P S E k bS] {x ix : Operand} {kd : IntKind} {i : Int} {α : Type} {f : α → AV} {l : List α} {id : Option Value} (j : Nat) (hlt : j < l.length) (h : AL P N ops Q s rest ((d, .pd (f l[j])) :: e) m) (hx : ev e x = some (.sl k (l.map f) id) := by exact rfl) (hi : ev e ix = some (.lit (.int kd i)) := by exact rfl) (hj : i = (j : Int) := by first | exact rfl | omega) (hd : Nat.blt d N = true := by exact rfl) :
    AL P N ops Q s (⟨some d, .indexAddr S x ix, ty, pos, af, none⟩ :: rest) e m := al_idxD j h hx hi hj (by simp [hlt]) hd
/-! slices of slices, of texts -/
def bnd (e : Env) (n : Nat) : Option Operand → Option Int
  | none => some n
  | some x => (match ev e x with | some (.lit (.int _ i)) => some i | _ => none)
theorem bnd_spec {n : Nat} {x : Option Operand} {i : Nat} {B : Act} {ok : Ok} {w : World} (hB : Sat N ok w e B) (h : bnd e n x = some (i : Int)) : (x.map B.eval = none ∧ i = n) ∨ ∃ kd, x.map B.eval = some (.int kd (i : Int)) := by
  cases x with
  | none => simp [bnd] at h; exact .inl ⟨rfl, by omega⟩
  | some y =>
    simp only [bnd] at h
    split at h
    · rename_i kd j hy
      injection h with h
      subst h
      exact .inr ⟨kd, by simp [hB.lit hy]⟩
    · cases h
theorem RCs.sub {ok : Ok} {w : World} {k lo hi : Nat} {xs : List AV} {cs : List Value} (h : RCs ok w xs cs) (hk : ∀ x ∈ xs, x.size = k) (h1 : lo ≤ hi) (h2 : hi ≤ xs.length) : ∃ x c y, cs = x ++ c ++ y ∧ x.length = lo * k ∧ c.length = (hi - lo) * k ∧ RCs ok w ((xs.take hi).drop lo) c := by
  have he : xs = (xs.take hi).take lo ++ ((xs.take hi).drop lo ++ xs.drop hi) := by
    rw [← List.append_assoc, List.take_append_drop, List.take_append_drop]
  rw [he] at h
  obtain ⟨x, d, rfl, g1, g2⟩ := h.split
  obtain ⟨c, y, rfl, g3, g4⟩ := g2.split
  refine ⟨x, c, y, by simp, ?_, ?_, g3⟩
  · rw [g1.len (fun a ha => hk a (List.mem_of_mem_take (List.mem_of_mem_take ha)))]
    rw [show (List.take lo (List.take hi xs)).length = lo by simp; omega]
  · rw [g3.len (fun a ha => hk a (List.mem_of_mem_take (List.mem_of_mem_drop ha)))]
    rw [show (List.drop lo (List.take hi xs)).length = hi - lo by simp; omega]
theorem al_sliceD {S E : TypeId} {k bS : Nat} [t : TyL P S E k bS] {x : Operand} {xl xh : Option Operand} {il ih : Int} {xs : List AV} {id : Option Value} (lo hi : Nat) (h : AL P N ops Q s rest ((d, .sl k ((xs.take hi).drop lo) none) :: e) m)
    (hx : ev e x = some (.sl k xs id) := by exact rfl) (hl : bnd e 0 xl = some il := by exact rfl) (hh : bnd e xs.length xh = some ih := by exact rfl) (h1 : il = (lo : Int) := by first | exact rfl | omega) (h2 : ih = (hi : Int) := by first | exact rfl | omega) (h3 : lo ≤ hi := by omega) (h4 : hi ≤ xs.length := by first | omega | (simp; omega)) (hd : Nat.blt d N = true := by exact rfl) : AL P N ops Q s (⟨some d, .slice S x xl xh none, ty, pos, af, none⟩ :: rest) e m :=
  al_val (fun ok w B _ hB => by
    obtain ⟨A, c, g1, _, g3, g4, g5, g6⟩ := sl_run (hB.eval hx)
    subst h1 h2
    have hb := run_bounds (P := P) (w := w) (sl := true) (bnd_spec hB hl) (bnd_spec hB hh) h3 (show hi ≤ c by omega)
    have hn : hi - lo = ((xs.take hi).drop lo).length := by simp; omega
    refine ⟨.slice (if c = lo then A else A.map (·.add (lo * k))) (hi - lo) (c - lo), ?_, ?_⟩
    · simp only [execOp, g1, Instr.sliceAt, Instr.slice, Sem.run_bind, run_underlying t.out, Result.andThen_ok, Option.map_none, hb, run_sizeOf t.size, Sem.run_pure]
    · refine RV.sl hn (by simp) (by omega) (by omega) (fun hp => ?_) (fun x hx => g6 x (List.mem_of_mem_take (List.mem_of_mem_drop hx)))
      obtain ⟨b, o, es, f1, f2, f3, f4⟩ := g5 (by omega)
      obtain ⟨x', c', y', rfl, e2, e3, e4⟩ := f4.sub g6 h3 h4
      refine ⟨b, o + lo * k, c', ?_, e3, by rw [← e2]; exact f3.mid, e4⟩
      subst f1
      rw [if_neg (by omega)]
      simp [add_mid]) hd h
/-- a slice of three indices, the last two the same: it is full -/
theorem al_slice3 {S E : TypeId} {k bS : Nat} [t : TyL P S E k bS] {x xh xm : Operand} {xl : Option Operand} {il ih : Int} {kd kd' : IntKind} {xs : List AV} {id : Option Value} (lo hi : Nat) (h : ∀ A, AL P N ops Q s rest ((d, .sl k ((xs.take hi).drop lo) (some (.slice A (hi - lo) (hi - lo)))) :: e) (.tail E k (.slice A (hi - lo) (hi - lo)) :: m))
    (hx : ev e x = some (.sl k xs id) := by exact rfl) (hl : bnd e 0 xl = some il := by exact rfl) (hh : ev e xh = some (.lit (.int kd ih)) := by exact rfl) (hm : ev e xm = some (.lit (.int kd' ih)) := by exact rfl) (h1 : il = (lo : Int) := by first | exact rfl | omega) (h2 : ih = (hi : Int) := by first | exact rfl | omega) (h3 : lo ≤ hi := by omega) (h4 : hi ≤ xs.length := by first | omega | (simp; omega)) (hd : Nat.blt d N = true := by exact rfl) : AL P N ops Q s (⟨some d, .slice S x xl (some xh) (some xm), ty, pos, af, none⟩ :: rest) e m :=
  al_stepV (fun ok w B hS hB => by
    obtain ⟨A, c, g1, _, g3, g4, g5, g6⟩ := sl_run (hB.eval hx)
    subst h1 h2
    have hb : (Instr.sliceBounds true xs.length c (xl.map B.eval) (some (.int kd (hi : Int))) (some (.int kd' (hi : Int)))).run P w = .ok (lo, hi, hi) w := by
      have hc : hi ≤ c := by omega
      rcases bnd_spec hB hl with ⟨e1, rfl⟩ | ⟨kd, e1⟩ <;> rw [e1] <;> simp [Instr.sliceBounds, Instr.sliceBound, asIntOf, h3, hc]
    have hn : hi - lo = ((xs.take hi).drop lo).length := by simp; omega
    refine ⟨_, .slice (if hi = lo then A else A.map (·.add (lo * k))) (hi - lo) (hi - lo), w, ok, _, ?_, ?_, hS.full E k (if hi = lo then A else A.map (·.add (lo * k))) (hi - lo), Stp.refl _ _, h _⟩
    · simp only [execOp, g1, hB.lit hh, hB.lit hm, Instr.sliceAt, Instr.slice, Sem.run_bind, run_underlying t.out, Result.andThen_ok, Option.map_some, hb, run_sizeOf t.size, Sem.run_pure]
    · refine RV.sl hn (fun v hv => by injection hv with hv; exact hv.symm) (by omega) (by omega) (fun hp => ?_) (fun x hx => g6 x (List.mem_of_mem_take (List.mem_of_mem_drop hx)))
      obtain ⟨b, o, es, f1, f2, f3, f4⟩ := g5 (by omega)
      obtain ⟨x', c', y', rfl, e2, e3, e4⟩ := f4.sub g6 h3 h4
      refine ⟨b, o + lo * k, c', ?_, e3, by rw [← e2]; exact f3.mid, e4⟩
      subst f1
      rw [if_neg (by omega)]
      simp [add_mid]) hd
theorem al_sliceS {S : TypeId} [t : TyT P S] {x : Operand} {xl xh : Option Operand} {il ih : Int} {a : Bs} (lo hi : Nat) (h : AL P N ops Q s rest ((d, str ((a.take hi).drop lo)) :: e) m)
    (hx : ev e x = some (str a) := by exact rfl) (hl : bnd e 0 xl = some il := by exact rfl) (hh : bnd e a.length xh = some ih := by exact rfl) (h1 : il = (lo : Int) := by first | exact rfl | omega) (h2 : ih = (hi : Int) := by first | exact rfl | omega) (h3 : lo ≤ hi := by omega) (h4 : hi ≤ a.length := by first | omega | (simp; omega)) (hd : Nat.blt d N = true := by exact rfl) : AL P N ops Q s (⟨some d, .slice S x xl xh none, ty, pos, af, none⟩ :: rest) e m :=
  al_lit rfl (fun ok w B hB => by
    subst h1 h2
    have hb := run_bounds (P := P) (w := w) (sl := false) (bnd_spec hB hl) (bnd_spec hB hh) h3 h4
    have he : (⟨a.toArray⟩ : ByteArray).extract lo hi = ⟨((a.take hi).drop lo).toArray⟩ := by
      apply ByteArray.ext
      rw [ByteArray.data_extract]
      apply Array.ext'
      simp [List.drop_take]
    simp only [execOp, hB.lit hx, Instr.sliceAt, Instr.slice, Sem.run_bind, run_underlying t.out, Result.andThen_ok, Option.map_none, size_sv, hb, Sem.run_pure, Option.isSome_none, Bool.false_eq_true, if_false, he]) hd h
/-! comparison with nil -/
theorem run_eqs {op : BinOp} {T yT : TypeId} {x y : Operand} {a b : Value} {r c : Bool} {w : World} {A : Act} (hx : A.eval x = a) (hy : A.eval y = b) (hne : ∀ k n, a ≠ .int k n) (hne2 : ∀ s, a ≠ .string s) (hne3 : ∀ k n, a ≠ .float k n) (hne4 : ∀ k m n, a ≠ .complex k m n)
    (hg : (eqGuard op T x y a b).run P w = .ok () w) (hr : (Op.equal T a b).run P w = .ok r w) (hc : eqs op r = some c) : (execOp A.eval ⟨some d, .binOp op T x y yT, ty, pos, af, none⟩).run P w = .ok (.value (.bool c)) w := by
  have hb : (binOp op T a b).run P w = .ok (.bool c) w := by
    cases op <;> (first | (cases hc; done) | skip)
    · injection hc with hc
      subst hc
      cases a <;> first | exact absurd rfl (hne _ _) | exact absurd rfl (hne2 _) | exact absurd rfl (hne3 _ _) | exact absurd rfl (hne4 _ _ _) | (simp [binOp, hr])
    · injection hc with hc
      subst hc
      cases a <;> first | exact absurd rfl (hne _ _) | exact absurd rfl (hne2 _) | exact absurd rfl (hne3 _ _) | exact absurd rfl (hne4 _ _ _) | (simp [binOp, hr])
  simp [execOp, hx, hy, hg, hb]
theorem al_ptrN {op : BinOp} {T yT E : TypeId} [t : TyP P T E] {x y : Operand} {p : Option Addr} {c : Bool} (h : AL P N ops Q s rest ((d, boo c) :: e) m) (hx : ev e x = some (.lit (.pointer p)) := by exact rfl) (hy : ev e y = some (.lit (.pointer none)) := by exact rfl) (hc : eqs op p.isNone = some c := by exact rfl) (hd : Nat.blt d N = true := by exact rfl) : AL P N ops Q s (⟨some d, .binOp op T x y yT, ty, pos, af, none⟩ :: rest) e m :=
  al_lit rfl (fun ok w A hA => run_eqs (hA.lit hx) (hA.lit hy) (by simp) (by simp) (by simp) (by simp) (by unfold eqGuard; cases op <;> rfl) (by
    have h : ∀ d : Nat, (Op.equalIn (d + 1) T (.pointer p) (.pointer none)).run P w = .ok p.isNone w := fun d => by cases p <;> simp [Op.equalIn, run_underlying t.out]
    exact h 9999) hc) hd h
theorem al_slNc {op : BinOp} {T yT E : TypeId} {k b : Nat} [t : TyL P T E k b] {x y : Operand} {p : Option Addr} {n m' : Nat} {c : Bool} (h : AL P N ops Q s rest ((d, boo c) :: e) m) (hx : ev e x = some (.lit (.slice p n m')) := by exact rfl) (hy : ev e y = some (.lit (.slice none 0 0)) := by exact rfl) (hc : eqs op p.isNone = some c := by exact rfl) (hd : Nat.blt d N = true := by exact rfl) : AL P N ops Q s (⟨some d, .binOp op T x y yT, ty, pos, af, none⟩ :: rest) e m :=
  al_lit rfl (fun ok w A hA => run_eqs (hA.lit hx) (hA.lit hy) (by simp) (by simp) (by simp) (by simp) (by unfold eqGuard; cases op <;> rfl) (by
    have h : ∀ d : Nat, (Op.equalIn (d + 1) T (.slice p n m') (.slice none 0 0)).run P w = .ok p.isNone w := fun d => by cases p <;> simp [Op.equalIn, run_underlying t.out]
    exact h 9999) hc) hd h
/-- data against nil: what it comes to is known where there are elements -/
theorem al_slN {op : BinOp} {T yT E : TypeId} {k b kz : Nat} [t : TyL P T E k b] {x y : Operand} {xs : List AV} {id : Option Value} (h : ∀ q c, (q = true → xs = []) → eqs op q = some c → AL P N ops Q s rest ((d, boo c) :: e) m) (hx : ev e x = some (.sl kz xs id) := by exact rfl) (hy : ev e y = some (.lit (.slice none 0 0)) := by exact rfl) (ho : (eqs op true).isSome = true := by exact rfl) (hd : Nat.blt d N = true := by exact rfl) : AL P N ops Q s (⟨some d, .binOp op T x y yT, ty, pos, af, none⟩ :: rest) e m :=
  al_stepV (fun ok w A hS hA => by
    obtain ⟨p, c, g1, _, g3, g4, g5, g6⟩ := sl_run (hA.eval hx)
    have hq : p.isNone = true → xs = [] := fun hp => by
      rcases Nat.eq_zero_or_pos xs.length with h0 | h0
      · exact List.eq_nil_of_length_eq_zero h0
      · obtain ⟨_, _, _, f1, _⟩ := g5 h0
        rw [f1] at hp
        simp at hp
    have he : ∃ c, eqs op p.isNone = some c := by
      cases op <;> simp [eqs] at ho ⊢
    obtain ⟨c', hc⟩ := he
    exact ⟨_, _, w, ok, m, run_eqs g1 (hA.lit hy) (by simp) (by simp) (by simp) (by simp) (by unfold eqGuard; cases op <;> rfl) (by
      have h : ∀ d : Nat, (Op.equalIn (d + 1) T (.slice p xs.length c) (.slice none 0 0)).run P w = .ok p.isNone w := fun d => by cases p <;> simp [Op.equalIn, run_underlying t.out]
      exact h 9999) hc, RVl rfl, hS, Stp.refl _ _, h _ _ hq hc⟩) hd
theorem al_idxC {T E : TypeId} {n k : Nat} [t : TyA P T n E k] {x ix : Operand} {kd : IntKind} {g o : Nat} {i : Int} (h : AL P N ops Q s rest ((d, .lit (.pointer (some ⟨g, o + i.toNat * k, none⟩))) :: e) m) (hx : ev e x = some (.lit (.pointer (some ⟨g, o, none⟩))) := by exact rfl) (hi : ev e ix = some (.lit (.int kd i)) := by exact rfl) (hj : i = Int.ofNat i.toNat := by exact rfl) (hlt : Nat.blt i.toNat n = true := by exact rfl) (hd : Nat.blt d N = true := by exact rfl) :
    AL P N ops Q s (⟨some d, .indexAddr T x ix, ty, pos, af, none⟩ :: rest) e m := by
  have hlt' : i.toNat < n := Nat.le_of_ble_eq_true hlt
  have hin : (0 : Int) ≤ i ∧ i < (n : Nat) := by have : i = (i.toNat : Int) := hj; omega
  exact al_lit rfl (fun ok w B hB => by
    simp only [execOp, hB.lit hx, hB.lit hi, Instr.indexAt, asIntOf, Instr.sureAddr, Sem.run_bind, Sem.run_pure, Result.andThen_ok, run_underlying t.out, hin, and_self, if_true, run_sizeOf t.sz, add_mid]) hd h
end
end Av

namespace Av
open Go Go.RowKit Tw
/-! ### Literals -/
section
variable {ok : Ok} {w : World}
/-- parts as values, one by one -/
def PR (ok : Ok) (w : World) : List AV → List Value → Prop
  | [], us => us = []
  | z :: zs, us => ∃ u r, us = u :: r ∧ RC ok w z u.cells.toList ∧ PR ok w zs r
theorem PR.cells : ∀ {zs : List AV} {us : List Value}, PR ok w zs us → RCs ok w zs (fl us)
  | [], _, h => by rw [show _ = [] from h, RCs]; rfl
  | z :: zs, _, ⟨u, r, h1, h2, h3⟩ => by
    subst h1
    rw [RCs]
    exact ⟨_, _, rfl, h2, h3.cells⟩
theorem RCs.parts : ∀ {zs : List AV} {cs : List Value}, RCs ok w zs cs → ∃ us, fl us = cs ∧ PR ok w zs us
  | [], cs, h => by
    rw [RCs] at h
    exact ⟨[], h.symm, rfl⟩
  | z :: zs, cs, h => by
    rw [RCs] at h
    obtain ⟨c1, c2, rfl, h2, h3⟩ := h
    obtain ⟨us, rfl, g⟩ := h3.parts
    exact ⟨.agg c1.toArray :: us, by simp [Value.cells], _, _, rfl, by simpa [Value.cells] using h2, g⟩
theorem PR.of_vs : ∀ {as : List AV} {vs : List Value}, RVs ok w as vs → PR ok w as vs
  | [], _, h => h
  | _ :: _, _, ⟨u, us, h1, h2, h3⟩ => ⟨u, us, h1, h2.1, PR.of_vs h3⟩
theorem PR.length : ∀ {zs : List AV} {us : List Value}, PR ok w zs us → us.length = zs.length
  | [], _, h => by rw [show _ = [] from h]; rfl
  | _ :: _, _, ⟨_, _, h1, _, h3⟩ => by rw [h1]; simp [PR.length h3]
def szs : List AV → Nat
  | [] => 0
  | z :: zs => z.size + szs zs
theorem PR.flen : ∀ {zs : List AV} {us : List Value}, PR ok w zs us → (fl us).length = szs zs
  | [], _, h => by rw [show _ = [] from h]; rfl
  | _ :: _, _, ⟨_, _, h1, h2, h3⟩ => by
    subst h1
    have := h2.len
    rw [fl_cons, List.length_append, this, PR.flen h3]
    rfl
theorem PR.take : ∀ {zs : List AV} {us : List Value} (i : Nat), PR ok w zs us → PR ok w (zs.take i) (us.take i)
  | [], _, i, h => by rw [show _ = [] from h]; simp [PR]
  | _ :: _, _, 0, _ => rfl
  | _ :: _, _, i + 1, ⟨u, r, h1, h2, h3⟩ => by
    subst h1
    exact ⟨u, r.take i, by simp, h2, PR.take i h3⟩
theorem PR.get : ∀ {zs : List AV} {us : List Value} {i : Nat} {u : Value}, PR ok w zs us → us[i]? = some u → ∃ z, zs[i]? = some z ∧ RC ok w z u.cells.toList
  | [], _, i, u, h, hu => by rw [show _ = [] from h] at hu; simp at hu
  | z :: zs, _, 0, u, ⟨u', r, h1, h2, h3⟩, hu => by
    subst h1
    simp at hu
    subst hu
    exact ⟨z, rfl, h2⟩
  | z :: zs, _, i + 1, u, ⟨u', r, h1, h2, h3⟩, hu => by
    subst h1
    simpa using PR.get h3 (by simpa using hu)
def setLA : List AV → Nat → AV → Option (List AV)
  | [], _, _ => none
  | z :: zs, 0, v => bif Nat.beq z.size v.size then some (v :: zs) else none
  | z :: zs, i + 1, v => (match setLA zs i v with | some r => some (z :: r) | none => none)
def setA (zs : List AV) : List Nat → List AV → Option (List AV)
  | [], [] => some zs
  | i :: is, v :: vs => (match setLA zs i v with
    | some zs' => setA zs' is vs
    | none => none)
  | _, _ => none
theorem setLA_spec : ∀ {zs : List AV} {i : Nat} {v : AV} {r : List AV} {us : List Value} {u : Value}, setLA zs i v = some r → PR ok w zs us → RC ok w v u.cells.toList → ∃ rs, setL us i u = some rs ∧ PR ok w r rs ∧ szs r = szs zs
  | [], _, _, _, _, _, h, _, _ => by simp [setLA] at h
  | z :: zs, 0, v, r, _, u, h, ⟨u', r', h1, h2, h3⟩, hv => by
    subst h1
    cases hb : Nat.beq z.size v.size with
    | false => simp [setLA, hb] at h
    | true =>
      simp [setLA, hb] at h
      subst h
      have hb := Nat.eq_of_beq_eq_true hb
      have e1 : u'.cells.size = z.size := by simpa using h2.len
      have e2 : u.cells.size = v.size := by simpa using hv.len
      have : Nat.beq u'.cells.size u.cells.size = true := by rw [e1, e2, hb]; exact Nat.beq_refl _
      exact ⟨u :: r', by simp [setL, this], ⟨u, r', rfl, hv, h3⟩, by simp [szs, hb]⟩
  | z :: zs, i + 1, v, r, _, u, h, ⟨u', r', h1, h2, h3⟩, hv => by
    subst h1
    unfold setLA at h
    cases hq : setLA zs i v with
    | none => simp [hq] at h
    | some p =>
      simp [hq] at h
      subst h
      obtain ⟨rs, g1, g2, g3⟩ := setLA_spec hq h3 hv
      exact ⟨u' :: rs, by simp [setL, g1], ⟨u', rs, rfl, h2, g2⟩, by simp [szs, g3]⟩
theorem setA_spec : ∀ {is : List Nat} {vs zs rs : List AV} {us vals : List Value}, setA zs is vs = some rs → PR ok w zs us → PR ok w vs vals → ∃ r, setP us is vals = some r ∧ PR ok w rs r ∧ szs rs = szs zs
  | [], [], zs, rs, us, vals, h, hz, hv => by
    simp [setA] at h
    subst h
    obtain rfl := (show vals = [] from hv)
    exact ⟨us, rfl, hz, rfl⟩
  | [], _ :: _, zs, rs, us, vals, h, _, _ => by simp [setA] at h
  | _ :: _, [], zs, rs, us, vals, h, _, _ => by simp [setA] at h
  | i :: is, v :: vs, zs, rs, us, vals, h, hz, ⟨u, r, h1, h2, h3⟩ => by
    subst h1
    unfold setA at h
    cases hq : setLA zs i v with
    | none => simp [hq] at h
    | some zs' =>
      simp only [hq] at h
      obtain ⟨us', g1, g2, g3⟩ := setLA_spec hq hz h2
      obtain ⟨r', f1, f2, f3⟩ := setA_spec h g2 h3
      exact ⟨r', by simp [setP, g1, f1], f2, by rw [f3, g3]⟩
/-- places and sizes of fields fit the zero parts -/
def fitsA : Nat → List (TypeId × Nat × Nat) → List AV → Bool
  | _, [], [] => true
  | o, f :: l, z :: zs => Nat.beq f.2.1 o && Nat.beq f.2.2 z.size && fitsA (o + z.size) l zs
  | _, _, _ => false
theorem fitsA_spec : ∀ {o : Nat} {l : List (TypeId × Nat × Nat)} {zs : List AV}, fitsA o l zs = true → l.length = zs.length ∧ ∀ (i : Nat) (z : AV), zs[i]? = some z → ∃ T, l[i]? = some (T, o + szs (zs.take i), z.size)
  | o, [], [], _ => by simp
  | o, [], z :: zs, h => by simp [fitsA] at h
  | o, f :: l, [], h => by simp [fitsA] at h
  | o, (T, off, sz) :: l, z :: zs, h => by
    simp only [fitsA, Bool.and_eq_true] at h
    obtain ⟨⟨h1, h2⟩, h3⟩ := h
    have h1 := Nat.eq_of_beq_eq_true h1
    have h2 := Nat.eq_of_beq_eq_true h2
    subst h1 h2
    obtain ⟨h4, h5⟩ := fitsA_spec h3
    refine ⟨by simp [h4], fun i u hi => ?_⟩
    cases i with
    | zero =>
      simp at hi
      subst hi
      exact ⟨T, by simp [szs]⟩
    | succ i =>
      obtain ⟨T', hT⟩ := h5 i u (by simpa using hi)
      exact ⟨T', by simpa [Nat.add_assoc, szs] using hT⟩
theorem PR.sizes {k : Nat} {zs : List AV} {us : List Value} (h : PR ok w zs us) (hk : ∀ z ∈ zs, z.size = k) : ∀ u ∈ us, u.cells.size = k := fun u hu => by
  obtain ⟨i, hi, he⟩ := List.mem_iff_getElem.1 hu
  obtain ⟨z, h1, h2⟩ := h.get (i := i) (u := u) (by simp [hi, he])
  have := h2.len
  rw [hk z (List.mem_of_getElem? h1)] at this
  simpa using this
end
section
variable {P : Program} {N : Nat} {ops : Array Oper} {Q : Exit → Act → World → Prop} {rest : List Oper} {s : Base} {e : Env} {m : List Piece} {d : Nat} {ty : TypeId} {pos : String} {af : Array Edge}
theorem hmap_of {ok : Ok} {w : World} {A : Act} {parts : List (Nat × Operand)} (hA : Sat N ok w e A) {vals : List AV} (hx : evs e (parts.map (·.2)) = some vals) (hn : vals.all noTup = true) :
    ∃ vs, RVs ok w vals vs ∧ (Array.map (fun (x : Nat × Operand) => (x.fst, A.eval x.snd)) parts.toArray).toList = (parts.map (·.1)).zip vs := by
  refine ⟨_, hA.evals hx hn, ?_⟩
  simp [List.zip_map', List.map_map]
/-- a struct's literal -/
theorem al_build {S : TypeId} {l : List (TypeId × Nat × Nat)} [t : TyS P S l] {n : Nat} {zs : List AV} [tz : TyO P S (.agg n zs)] {parts : List (Nat × Operand)} {vals rs : List AV} (h : AL P N ops Q s rest ((d, .agg n rs) :: e) m) (hx : evs e (parts.map (·.2)) = some vals := by exact rfl) (hf : fitsA 0 l zs = true := by exact rfl)
    (hr : setA zs (parts.map (·.1)) vals = some rs := by exact rfl) (hn : vals.all noTup = true := by exact rfl) (hd : Nat.blt d N = true := by exact rfl) : AL P N ops Q s (⟨some d, .build S parts.toArray, ty, pos, af, none⟩ :: rest) e m := by
  obtain ⟨fs, hu, hlen, hfs⟩ := structOf_spec t.out
  obtain ⟨hl2, hp2⟩ := fitsA_spec hf
  refine al_val (fun ok w A _ hA => ?_) hd h
  obtain ⟨z, cs, hz, hzc, hza, hcs⟩ := tz.run w
  have hrc := cellsA_spec (ok := ok) (w := w) hcs
  rw [RC] at hrc
  obtain ⟨us, rfl, hpr⟩ := hrc.2.parts
  obtain ⟨vs, hvs, hmap⟩ := hmap_of hA hx hn
  obtain ⟨r, g1, g2, g3⟩ := setA_spec hr hpr (PR.of_vs hvs)
  have hplaces : (fs.mapM fun (f : Field) => do pure (f.offset, ← Go.sizeOf f.type)).run P w = .ok (fs.map fun (f : Field) => (f.offset, ((P.info? f.type).map (·.size)).getD 0)) w := by
    refine run_mapM fs fun f hf => ?_
    obtain ⟨i, hi, hie⟩ := Array.mem_iff_getElem.1 hf
    have hil : i < l.length := by omega
    obtain ⟨f', hf1, hf2, hf3, hf4⟩ := hfs i l[i].1 l[i].2.1 l[i].2.2 (by simp [hil])
    rw [Array.getElem?_eq_getElem hi, hie] at hf1
    injection hf1 with hf1
    subst hf1
    rw [← hf2] at hf4
    simp [run_sizeOf hf4, hf4]
  have hfill := (fill_setP (place := fun i => (fs.map fun (f : Field) => (f.offset, ((P.info? f.type).map (·.size)).getD 0))[i]?) (by
    intro i u hi
    obtain ⟨z, hz1, hz2⟩ := hpr.get hi
    obtain ⟨T, hT⟩ := hp2 i z hz1
    obtain ⟨f', hf1, hf2, hf3, hf4⟩ := hfs i _ _ _ hT
    rw [Array.getElem?_map, hf1, (hpr.take i).flen]
    have := hz2.len
    simp at this
    simp [hf2, hf3, hf4, this]) g1).1
  have hzc' : z.cells = (fl us).toArray := by rw [← hzc]
  refine ⟨.agg (fl r).toArray, ?_, ?_⟩
  · simp only [execOp, Instr.build, Sem.run_bind, hz, Result.andThen_ok, run_underlying hu, hplaces, hzc']
    rw [hmap, hfill]
    rfl
  · refine ⟨?_, rfl⟩
    rw [RC]
    refine ⟨?_, by simpa [Value.cells] using g2.cells⟩
    have h1 := hrc.1
    rw [hpr.flen] at h1
    simp [Value.cells, g2.flen, g3, h1]
/-- an array's literal -/
theorem al_buildA {T E : TypeId} {len k n : Nat} [t : TyA P T len E k] {zs : List AV} [tz : TyO P T (.agg n zs)] {parts : List (Nat × Operand)} {vals rs : List AV} (h : AL P N ops Q s rest ((d, .agg n rs) :: e) m) (hx : evs e (parts.map (·.2)) = some vals := by exact rfl) (hk : zs.all (fun z => Nat.beq z.size k) = true := by exact rfl)
    (hr : setA zs (parts.map (·.1)) vals = some rs := by exact rfl) (hn : vals.all noTup = true := by exact rfl) (hd : Nat.blt d N = true := by exact rfl) : AL P N ops Q s (⟨some d, .build T parts.toArray, ty, pos, af, none⟩ :: rest) e m := by
  have hk' : ∀ z ∈ zs, z.size = k := fun z hz => Nat.eq_of_beq_eq_true (List.all_eq_true.1 hk z hz)
  refine al_val (fun ok w A _ hA => ?_) hd h
  obtain ⟨z, cs, hz, hzc, hza, hcs⟩ := tz.run w
  have hrc := cellsA_spec (ok := ok) (w := w) hcs
  rw [RC] at hrc
  obtain ⟨us, rfl, hpr⟩ := hrc.2.parts
  obtain ⟨vs, hvs, hmap⟩ := hmap_of hA hx hn
  obtain ⟨r, g1, g2, g3⟩ := setA_spec hr hpr (PR.of_vs hvs)
  have hus := hpr.sizes hk'
  have hfill := (fill_setP (place := fun i => some (i * k, k)) (by
    intro i u hi
    obtain ⟨hil, hie⟩ := List.getElem?_eq_some_iff.1 hi
    rw [fl_length (k := k) (fun x hx => hus x (List.mem_of_mem_take hx)), hus u (List.mem_of_getElem? hi)]
    simp [Nat.min_eq_left (Nat.le_of_lt hil)]) g1).1
  have hzc' : z.cells = (fl us).toArray := by rw [← hzc]
  refine ⟨.agg (fl r).toArray, ?_, ?_⟩
  · simp only [execOp, Instr.build, Sem.run_bind, hz, Result.andThen_ok, run_underlying t.out, run_sizeOf t.sz, hzc']
    rw [hmap, hfill]
    rfl
  · refine ⟨?_, rfl⟩
    rw [RC]
    refine ⟨?_, by simpa [Value.cells] using g2.cells⟩
    have h1 := hrc.1
    rw [hpr.flen] at h1
    simp [Value.cells, g2.flen, g3, h1]

theorem TyE.zero {S E : TypeId} {k b : Nat} (t : TyE P S E k b) : ∃ i z, P.info? E = some i ∧ i.zero = some z ∧ z.cells.size = k ∧ i.size = k ∧ i.bytes = b := by
  have h1 := t.z
  have h2 := t.l.sz
  cases hq : P.info? E with
  | none => simp [hq] at h1
  | some i =>
    cases hz : i.zero with
    | none => simp [hq, hz] at h1
    | some z =>
      simp [hq, hz] at h1 h2
      exact ⟨i, z, rfl, hz, h1, h2.1, h2.2⟩
/-- a slice's literal: data -/
theorem al_buildL {T E : TypeId} {k b : Nat} [t : TyE P T E k b] {n : Nat} {parts : List (Nat × Operand)} {vals : List AV} (h : AL P N ops Q s rest ((d, .sl k vals none) :: e) m) (hx : evs e (parts.map (·.2)) = some vals := by exact rfl)
    (hi : parts.map (·.1) = List.range n := by exact rfl) (hk : vals.all (fun v => Nat.beq v.size k) = true := by exact rfl) (hn : vals.all noTup = true := by exact rfl) (hs : Nat.ble (n * k) 65536 = true := by exact rfl) (hn0 : Nat.blt 0 n = true := by exact rfl) (hd : Nat.blt d N = true := by exact rfl) :
    AL P N ops Q s (⟨some d, .buildSlice T n parts.toArray, ty, pos, af, none⟩ :: rest) e m := by
  have hkv : ∀ v ∈ vals, v.size = k := fun z hz => Nat.eq_of_beq_eq_true (List.all_eq_true.1 hk z hz)
  have hkp : 0 < k := Nat.le_of_ble_eq_true t.k0
  have hnp : 0 < n := Nat.le_of_ble_eq_true hn0
  have hnk : n * k ≤ 65536 := Nat.le_of_ble_eq_true hs
  refine al_step (v := .sl k vals none) (fun ok w A hS hA => ?_) hd
  obtain ⟨vs, hvs, hmap⟩ := hmap_of hA hx hn
  have hpv := PR.of_vs hvs
  have hlv := hpv.length
  have hsv := hpv.sizes hkv
  have hlen : vs.length = n := by
    have h1 : ((parts.map (·.2)).map A.eval).length = vs.length := by rw [hlv, (hA.evals hx hn).length.symm]
    have h2 : (parts.map (·.1)).length = n := by rw [hi]; simp
    simp at h1 h2
    omega
  obtain ⟨i, z, q1, q2, hzk, _, _⟩ := t.zero
  have hzr : (zeroValue E).run P w = .ok z w := by simp [zeroValue, typeInfo, q1, q2]
  subst hlen
  have hcells : ((Array.range (vs.length * k)).map (z.cells[· % z.cells.size]!)) = (fl (List.replicate vs.length (.agg z.cells))).toArray := by
    apply Array.ext'
    rw [fl_replicate z.cells (v := .agg z.cells) rfl, hzk]
    simp
  have hset := setP_full (z := .agg z.cells) vs [] (fun v hv => by rw [hsv v hv]; exact hzk)
  simp only [List.nil_append, List.length_nil] at hset
  have hfill := (fill_setP (place := fun i => some (i * k, k)) (by
    intro i u hiu
    obtain ⟨hil, hie⟩ := List.getElem?_eq_some_iff.1 hiu
    rw [List.getElem_replicate] at hie
    subst hie
    have hil' : i < vs.length := by simpa using hil
    rw [fl_length (k := k) (fun x hx => by
      have := List.mem_of_mem_take hx
      rw [List.mem_replicate] at this
      rw [this.2]
      exact hzk)]
    simp [Nat.min_eq_left (Nat.le_of_lt hil')]
    exact hzk.symm) hset).1
  have hE := Ext.alloc w (.cells (fl vs).toArray E)
  have hblk : (w.alloc (.cells (fl vs).toArray E)).heap[w.heap.size]? = some (.cells (fl vs).toArray E (0, 0)) := heap_alloc_new w _
  have hst := Ext.astp hE ok
  refine ⟨.slice (some ⟨w.heap.size, 0, none⟩) vs.length vs.length, w.alloc (.cells (fl vs).toArray E), ok, m, ?_, ?_, hS.ext hE, hst, h⟩
  · have h0 : ¬ vs.length * k > 2 ^ 24 := by omega
    have h1 : ¬ vs.length * k = 0 := by
      have := Nat.mul_pos hnp hkp
      omega
    have hmap' : (Array.map (fun (x : Nat × Operand) => (x.fst, A.eval x.snd)) parts.toArray).toList = (List.range' 0 vs.length).zip vs := by rw [hmap, hi, List.range_eq_range']
    simp only [execOp, Instr.buildSlice, Sem.run_bind, run_underlying t.l.out, Result.andThen_ok, run_sizeOf t.l.size, h0, h1, if_false, Sem.run_pure, hzr]
    rw [hmap', hcells, hfill]
    simp [newRow, newObj, Sem.run]
  · refine RV.sl hlv (by simp) (Nat.le_refl _) (by
      have : vs.length ≤ vs.length * k := Nat.le_mul_of_pos_right _ hkp
      simp only [maxLen]
      omega) (fun _ => ⟨w.heap.size, 0, fl vs, rfl, by rw [fl_length hsv], fun j v hj => ?_, (hpv.cells).stp hst⟩) hkv
    rw [Nat.zero_add, cell_of_row _ _ _ _ _ _ hblk]
    exact ⟨by simpa using hj, hS.fresh _ _ (Nat.le_refl _)⟩
/-- a literal of no element -/
theorem al_build0 {T E : TypeId} {k b : Nat} [t : TyE P T E k b] (h : ∀ g, AL P N ops Q s rest ((d, .sl k [] (some (.slice (some ⟨g, 0, none⟩) 0 0))) :: e) (.tail E k (.slice (some ⟨g, 0, none⟩) 0 0) :: m)) (hd : Nat.blt d N = true := by exact rfl) :
    AL P N ops Q s (⟨some d, .buildSlice T 0 #[], ty, pos, af, none⟩ :: rest) e m :=
  al_stepV (fun ok w A hS hA => by
    have hE := Ext.alloc w (.cells #[] E)
    refine ⟨_, .slice (some ⟨w.heap.size, 0, none⟩) 0 0, w.alloc (.cells #[] E), ok, _, ?_, ?_, (hS.ext hE).full E k (some ⟨w.heap.size, 0, none⟩) 0, Ext.astp hE ok, h w.heap.size⟩
    · simp [execOp, Instr.buildSlice, run_underlying t.l.out, run_sizeOf t.l.size, Instr.fill, newRow, newObj, Sem.run]
      have : (Array.map (fun _ => (default : Value)) (Array.range 0)) = #[] := by apply Array.ext'; simp
      rw [this]
    · exact RV.sl rfl (fun v hv => by injection hv with hv; exact hv.symm) (Nat.le_refl _) (by simp [maxLen]) (by simp) (by simp)) hd

/-! ### append -/
theorem setCells_row {g : Nat} {T : TypeId} {fr : Nat × Nat} : ∀ (vs : List Value) (o : Nat) (cur : Array Value) (w : World), w.heap[g]? = some (.cells cur T fr) → o + vs.length ≤ cur.size → w.setCells g o vs = w.setRow g (cur.toList.take o ++ vs ++ cur.toList.drop (o + vs.length)).toArray
  | [], o, cur, w, hb, _ => by
    rw [List.append_nil, List.length_nil, Nat.add_zero, List.take_append_drop, Array.toArray_toList, setRow_self w g cur T fr hb]
    rfl
  | v :: r, o, cur, w, hb, hl => by
    rw [List.length_cons] at hl
    have e1 : w.setCell ⟨g, o, none⟩ v = w.setRow g (cur.setIfInBounds o v) := setCell_eq_setRow w g o cur T fr v hb
    show (w.setCell ⟨g, o, none⟩ v).setCells g (o + 1) r = _
    rw [e1, setCells_row r (o + 1) (cur.setIfInBounds o v) _ (setRow_heap w g cur _ T fr hb) (by simp; omega), setRow_setRow]
    congr 2
    have ho : o < cur.toList.length := by simp; omega
    rw [Array.toList_setIfInBounds, List.set_eq_take_append_cons_drop, if_pos ho]
    have h1 : (cur.toList.take o).length = o := by simp; omega
    have e2 : (cur.toList.take o ++ v :: cur.toList.drop (o + 1)).take (o + 1) = cur.toList.take o ++ [v] := by
      rw [List.take_append, h1, List.take_of_length_le (by omega), show o + 1 - o = 1 by omega]
      simp
    have e3 : (cur.toList.take o ++ v :: cur.toList.drop (o + 1)).drop (o + 1 + r.length) = cur.toList.drop (o + (v :: r).length) := by
      rw [List.drop_append, h1, List.drop_of_length_le (by omega), List.nil_append, show o + 1 + r.length - o = r.length + 1 by omega, List.drop_succ_cons, List.drop_drop, List.length_cons]
      congr 1
      omega
    rw [e2, e3]
    simp
theorem run_append_roomF {P : Program} {w : World} (t ty e : TypeId) (i : TypeInfo) (ht : P.underlying t = some (.slice e)) (hi : P.info? e = some i) (g n c : Nat) (cur : Array Value) {fr : Nat × Nat} (hg : w.heap[g]? = some (.cells cur e fr)) (hfr : fr.2 = 0 ∨ cur.size ≤ fr.1)
    (a : Addr) (m c2 : Nat) (news : List Value) (hl : news.length = m * i.size) (hnews : ∀ j u, news[j]? = some u → w.cell? (a.add j) = some u) (h1 : ∀ u ∈ news, u.oneCell' = true) (hroom : n + m ≤ c) (hfit : n * i.size + news.length ≤ cur.size) :
    (Builtin.append_ #[t, t] ty #[.slice (some ⟨g, 0, none⟩) n c, .slice (some a) m c2]).run P w = .ok (.slice (some ⟨g, 0, none⟩) (n + m) c) (w.setRow g (cur.toList.take (n * i.size) ++ news ++ cur.toList.drop (n * i.size + news.length)).toArray) := by
  rw [← setCells_row news (n * i.size) cur w hg hfit]
  have h := run_append_room_cells (P := P) (w := w) t ty e i ht hi g 0 n c a m c2 news hl hnews h1 hroom (fun j hj => by
    have hlt : n * i.size + j < cur.size := by omega
    simp [World.cell?, hg, hlt]) (fun j hj => by
    have hlt : 0 + n * i.size + j < cur.size := by omega
    simp only [World.frozen?, hg, Bool.and_eq_false_iff, decide_eq_false_iff_not]
    omega)
  rw [Nat.zero_add] at h
  exact h
theorem St.appended {E : TypeId} {k n c : Nat} {g : Nat} {pre post : List Piece} {ok : Ok} {w : World} {cur : Array Value} {news : List Value} {j : Nat} (h : St s ok (pre ++ .tail E k (.slice (some ⟨g, 0, none⟩) n c) :: post) w) (hnc : n < c) {fr : Nat × Nat} (hb : w.heap[g]? = some (.cells cur E fr)) (hfr : fr.2 = 0 ∨ cur.size ≤ fr.1) (hcs : cur.size = c * k) (hcm : c ≤ maxLen)
    (hj : news.length = j * k) (hroom : n + j ≤ c) :
    ∃ ok', St s ok' (pre ++ .tail E k (.slice (some ⟨g, 0, none⟩) (n + j) c) :: post) (w.setRow g (cur.toList.take (n * k) ++ news ++ cur.toList.drop (n * k + news.length)).toArray) ∧
      Stp ok w ok' (w.setRow g (cur.toList.take (n * k) ++ news ++ cur.toList.drop (n * k + news.length)).toArray) ∧ (∀ i, i < (n + j) * k → n * k ≤ i → ok' g i) := by
  have hpm : Piece.tail E k (.slice (some ⟨g, 0, none⟩) n c) ∈ pre ++ .tail E k (.slice (some ⟨g, 0, none⟩) n c) :: post := by simp
  have hno : ∀ i, n * k ≤ i → ¬ ok g i := fun i hi => h.own _ hpm g i ⟨_, _, _, rfl, by omega, rfl, hi⟩
  have hblk : Piece.blk (.tail E k (.slice (some ⟨g, 0, none⟩) n c)) = some g := by simp [Piece.blk, tailBlk, beq_ff (Nat.ne_of_lt hnc)]
  generalize hw : w.setRow g (cur.toList.take (n * k) ++ news ++ cur.toList.drop (n * k + news.length)).toArray = w'
  have hhg : w'.heap[g]? = some (.cells (cur.toList.take (n * k) ++ news ++ cur.toList.drop (n * k + news.length)).toArray E fr) := by rw [← hw]; exact setRow_heap w g cur _ E _ hb
  have hfit : (n + j) * k ≤ c * k := Nat.mul_le_mul_right k hroom
  rw [Nat.add_mul] at hfit
  have hst : Stp ok w (fun b i => ok b i ∨ (b = g ∧ n * k ≤ i ∧ i < (n + j) * k)) w' := ⟨by rw [← hw]; simp, fun b i u h1 h2 => by
    refine ⟨?_, .inl h2⟩
    by_cases hbg : b = g
    · subst hbg
      have hi : i < n * k := by
        rcases Nat.lt_or_ge i (n * k) with h | h
        · exact h
        · exact absurd h2 (hno i h)
      rw [cell_of_row _ _ _ _ _ _ hb] at h1
      rw [cell_of_row _ _ _ _ _ _ hhg]
      have : i < cur.size := by omega
      simp only [List.getElem?_toArray, List.append_assoc]
      rw [List.getElem?_append_left (by simp; omega), List.getElem?_take_of_lt hi]
      simpa using h1
    · rw [← hw]
      exact (cell_block (setRow_other w g b _ hbg)).trans h1⟩
  refine ⟨_, h.write (g := g) (p' := .tail E k (.slice (some ⟨g, 0, none⟩) (n + j) c)) hblk ?_ hst ?_ ?_ (by rw [← hw]; simp) (by rw [← hw]; rfl) (by rw [← hw]; rfl) (by rw [← hw]; rfl) (fun b hne => by rw [← hw]; exact setRow_other w g b _ hne) (fun b i hne => ⟨fun h => h.elim id (fun h => absurd h.1 hne), .inl⟩), hst, fun i h1 h2 => .inr ⟨rfl, h2, h1⟩⟩
  · by_cases hq : n + j = c
    · right; simp [Piece.blk, tailBlk, hq]
    · left; simp [Piece.blk, tailBlk, beq_ff hq]
  · by_cases hq : n + j = c
    · exact .inl ⟨_, _, by rw [hq]⟩
    · have hsz : (cur.toList.take (n * k) ++ news ++ cur.toList.drop (n * k + news.length)).toArray.size = cur.size := by
        simp
        omega
      exact .inr ⟨g, n + j, c, _, fr, rfl, hhg, by omega, hcm, by rw [hsz, hcs], by rw [hsz]; exact hfr⟩
  · rintro b i ⟨a, n', c', he, hne, rfl, hi⟩ ho
    injection he with e1 e2 e3
    injection e1 with e1
    subst e1 e2 e3
    rcases ho with ho | ⟨_, _, ho⟩
    · exact hno i (by rw [Nat.add_mul] at hi; omega) ho
    · omega
theorem St.grownTail {E : TypeId} {k n c : Nat} {v : Value} {pre post : List Piece} {ok : Ok} {w w' : World} {cur : Array Value} (h : St s ok (pre ++ .tail E k v :: post) w) (he : Ext w w') (hsz : w'.heap.size = w.heap.size + 1) {fr : Nat × Nat} (hb : w'.heap[w.heap.size]? = some (.cells cur E fr)) (hfr : fr.2 = 0 ∨ cur.size ≤ fr.1) (hnc : n ≤ c) (hcs : cur.size = c * k) (hcm : c ≤ maxLen) :
    ∃ ok', St s ok' (pre ++ .tail E k (.slice (some ⟨w.heap.size, 0, none⟩) n c) :: post) w' ∧ Stp ok w ok' w' ∧ (∀ i, i < n * k → ok' w.heap.size i) := by
  have hd := h.less (m' := pre ++ post) (by simp)
  have hk : ∀ b j, b < w.heap.size → ((ok b j ∧ ¬ (b = w.heap.size ∧ n * k ≤ j)) ↔ ok b j) := fun b j hb => ⟨fun h => h.1, fun h => ⟨h, fun ⟨e, _⟩ => by omega⟩⟩
  obtain ⟨g1, g2⟩ := hd.grow (new := [.tail E k (.slice (some ⟨w.heap.size, 0, none⟩) n c)]) (ok' := fun b j => ok b j ∧ ¬ (b = w.heap.size ∧ n * k ≤ j)) he hk (fun b j hb => ⟨h.fresh b j (by omega), fun ⟨e, _⟩ => by omega⟩) (fun p hp => by
    obtain rfl : p = _ := by simpa using hp
    by_cases hq : n = c
    · exact .inl ⟨_, _, by rw [hq]⟩
    · exact .inr ⟨_, n, c, cur, fr, rfl, hb, by omega, hcm, hcs, hfr⟩) (fun p hp g hg => by
    obtain rfl : p = _ := by simpa using hp
    by_cases hq : n = c
    · simp [Piece.blk, tailBlk, hq] at hg
    · simp [Piece.blk, tailBlk, beq_ff hq] at hg
      omega) (fun p hp b j hbj => by
    obtain rfl : p = _ := by simpa using hp
    obtain ⟨a, n', c', he, hne, rfl, hi⟩ := hbj
    injection he with e1 e2 e3
    injection e1 with e1
    subst e1 e2 e3
    exact fun ho => ho.2 ⟨rfl, hi⟩) (by simp)
  refine ⟨_, g1.perm ?_, g2, fun i hi => ⟨h.fresh _ _ (Nat.le_refl _), fun ⟨_, h⟩ => by omega⟩⟩
  simp only [List.singleton_append]
  exact List.perm_middle
theorem al_append {T E : TypeId} {k b : Nat} [t : TyE P T E k b] {xo yo : Operand} {v : Value} {xs ys : List AV} {id : Option Value} {M : Value → List Piece} (h : ∀ v', AL P N ops Q s rest ((d, .sl k (xs ++ ys) (some v')) :: e) (M v')) (hx : ev e xo = some (.sl k xs (some v)) := by exact rfl) (hy : ev e yo = some (.sl k ys id) := by exact rfl)
    (hm : ∀ v', Upd m (.tail E k v) (.tail E k v') (M v') := by intro v'; (repeat (first | apply Av.Upd.here | apply Av.Upd.there)))
    (hb : (xs.length + ys.length) * b ≤ 140737488355328 := by (simp; omega)) (hl : xs.length + ys.length ≤ maxLen := by (simp [maxLen]; omega)) (hd : Nat.blt d N = true := by exact rfl) :
    AL P N ops Q s (⟨some d, .call ⟨.builtin .append, #[xo, yo], #[T, T]⟩, ty, pos, af, none⟩ :: rest) e m := by
  refine al_stepV (fun ok w B hS hB => ?_) hd
  obtain ⟨A, c, g1, gid, g3, g4, g5, g6⟩ := sl_run (hB.eval hx)
  obtain ⟨A2, c2, f1, _, f3, f4, f5, f6⟩ := sl_run (hB.eval hy)
  obtain rfl := (gid v rfl).trans g1
  obtain ⟨i, z, q1, q2, hzk, hik, hib⟩ := t.zero
  have hkp : 0 < k := Nat.le_of_ble_eq_true t.k0
  have hsm : xs.length + ys.length ≤ 9223372036854775807 := by simpa [maxLen] using hl
  rcases Nat.eq_zero_or_pos ys.length with h0 | h0
  · have hys : ys = [] := List.eq_nil_of_length_eq_zero h0
    subst hys
    have hrun : (Builtin.append_ #[T, T] ty #[.slice A xs.length c, .slice A2 0 c2]).run P w = .ok (.slice A xs.length c) w := by
      cases A <;> cases A2 <;> simp [Builtin.append_, run_underlying t.l.out, Go.sizeOf, typeInfo, q1, Builtin.lenOf, Builtin.firstCells, g3, storeCells, loadCells, loadCellsFrom]
    obtain ⟨pre, post, hm1, hm2⟩ := (hm (.slice A xs.length c)).parts
    have hMm : M (.slice A xs.length c) = m := by rw [hm2, hm1]
    refine ⟨_, .slice A xs.length c, w, ok, _, by simp [execOp, resolve, invoke, builtin, g1, f1, hrun], ?_, by rw [hMm]; exact hS, Stp.refl _ _, h (.slice A xs.length c)⟩
    rw [List.append_nil]
    exact RV.sl rfl (fun v hv => by injection hv with hv; exact hv.symm) g3 g4 g5 g6
  · obtain ⟨b2, o2, es2, e1, e2, e3, e4⟩ := f5 h0
    subst e1
    have hnew : ∀ j u, es2[j]? = some u → w.cell? ((⟨b2, o2, none⟩ : Addr).add j) = some u := fun j u hj => by rw [add_mid]; exact (e3 j u hj).1
    have hl2 : es2.length = ys.length * i.size := by rw [e2, hik]
    by_cases hroom : xs.length + ys.length ≤ c
    · -- in place
      obtain ⟨pre, post, hm1, hm2⟩ := (hm (.slice A (xs.length + ys.length) c)).parts
      rw [hm1] at hS
      have hat := hS.at_ (.tail E k (.slice A xs.length c)) (by simp)
      rcases hat with ⟨A', n', he⟩ | ⟨g, n', cap, cur, fr, he, hh, hnc, hcm, hcs, hfr⟩
      · injection he with _ h2 h3
        omega
      · injection he with h1 h2 h3
        subst h1 h2 h3
        obtain ⟨ok', s1, s2, s3⟩ := hS.appended (j := ys.length) (news := es2) hnc hh hfr hcs hcm e2 hroom
        have hr := run_append_roomF (P := P) (w := w) T ty E i t.l.out q1 g xs.length c cur hh hfr ⟨b2, o2, none⟩ ys.length c2 es2 hl2 hnew (RCs.one e4) hroom (by rw [hik, hcs, e2, ← Nat.add_mul]; exact Nat.mul_le_mul_right _ hroom)
        rw [hik] at hr
        refine ⟨_, .slice (some ⟨g, 0, none⟩) (xs.length + ys.length) c, _, ok', _, by simp [execOp, resolve, invoke, builtin, g1, f1, hr], ?_, by rw [hm2]; exact s1, s2, h (.slice (some ⟨g, 0, none⟩) (xs.length + ys.length) c)⟩
        refine RV.sl (by simp) (fun v hv => by injection hv with hv; exact hv.symm) hroom hcm (fun _ => ?_) (fun x hx => by
          rcases List.mem_append.1 hx with hx | hx
          · exact g6 x hx
          · exact f6 x hx)
        have hhg := setRow_heap w g cur (cur.toList.take (xs.length * k) ++ es2 ++ cur.toList.drop (xs.length * k + es2.length)).toArray E fr hh
        have hold : ∃ es, es.length = xs.length * k ∧ cur.toList.take (xs.length * k) = es ∧ RCs ok w xs es ∧ (∀ j v, es[j]? = some v → ok g j) := by
          rcases Nat.eq_zero_or_pos xs.length with hx0 | hx0
          · have : xs = [] := List.eq_nil_of_length_eq_zero hx0
            subst this
            exact ⟨[], by simp, by simp, by rw [RCs], by simp⟩
          · obtain ⟨b', o', es, r1, r2, r3, r4⟩ := g5 hx0
            injection r1 with r1
            injection r1 with r1 r1'
            subst r1 r1'
            refine ⟨es, r2, ?_, r4, fun j v hj => by have := (r3 j v hj).2; rwa [Nat.zero_add] at this⟩
            apply List.ext_getElem?
            intro j
            rcases Nat.lt_or_ge j es.length with hj | hj
            · have h1 := (r3 j es[j] (by simp [hj])).1
              rw [Nat.zero_add, cell_of_row _ _ _ _ _ _ hh] at h1
              rw [List.getElem?_take_of_lt (by omega)]
              simp only [Array.getElem?_toList, h1, List.getElem?_eq_getElem hj]
            · rw [List.getElem?_eq_none (by simp; omega), List.getElem?_eq_none hj]
        obtain ⟨es, r1, r2, r3, r4⟩ := hold
        have hfit : (xs.length + ys.length) * k ≤ c * k := Nat.mul_le_mul_right k hroom
        refine ⟨g, 0, es ++ es2, rfl, by rw [List.length_append, r1, e2, Nat.add_mul], fun j u hj => ?_, (r3.stp s2).append (e4.stp s2)⟩
        rw [Nat.zero_add, cell_of_row _ _ _ _ _ _ hhg, r2]
        have hjl : j < (es ++ es2).length := (List.getElem?_eq_some_iff.1 hj).1
        refine ⟨by simp only [List.getElem?_toArray]; rw [List.getElem?_append_left hjl]; exact hj, ?_⟩
        rw [List.length_append, r1, e2, ← Nat.add_mul] at hjl
        rcases Nat.lt_or_ge j (xs.length * k) with hlt | hge
        · have hj1 : j < es.length := by omega
          have hcell : w.cell? ⟨g, j, none⟩ = some es[j] := by
            rw [cell_of_row _ _ _ _ _ _ hh]
            have : (cur.toList.take (xs.length * k))[j]? = some es[j] := by rw [r2]; simp [hj1]
            rw [List.getElem?_take_of_lt hlt] at this
            simpa using this
          exact (s2.keep g j _ hcell (r4 j es[j] (by simp [hj1]))).2
        · exact s3 j hjl hge
    · -- into a new block
      have hnew' : ∀ (cur : Array Value) (c' : Nat) (es : List Value), es.length = xs.length * k → RCs ok w xs es → cur.toList.take ((xs.length + ys.length) * k) = es ++ es2 → cur.size = c' * k → xs.length + ys.length ≤ c' → c' ≤ maxLen →
          (Builtin.append_ #[T, T] ty #[.slice A xs.length c, .slice (some ⟨b2, o2, none⟩) ys.length c2]).run P w = .ok (.slice (some ⟨w.heap.size, 0, none⟩) (xs.length + ys.length) c') (w.drew.alloc (.cells cur E)) →
          ∃ v u w' ok' m', (execOp B.eval ⟨some d, .call ⟨.builtin .append, #[xo, yo], #[T, T]⟩, ty, pos, af, none⟩).run P w = .ok (.value u) w' ∧ RV ok' w' v u ∧ St s ok' m' w' ∧ Stp ok w ok' w' ∧ AL P N ops Q s rest ((d, v) :: e) m' := by
        intro cur c' es hes hres htake hcs hnc hcm hrun
        obtain ⟨pre, post, hm1, hm2⟩ := (hm (.slice (some ⟨w.heap.size, 0, none⟩) (xs.length + ys.length) c')).parts
        rw [hm1] at hS
        have hE : Ext w (w.drew.alloc (.cells cur E)) := Ext.trans' (Ext.drew w) (Ext.alloc w.drew _)
        have hblk : (w.drew.alloc (.cells cur E)).heap[w.heap.size]? = some (.cells cur E (0, 0)) := heap_alloc_new w.drew _
        obtain ⟨ok', s1, s2, s3⟩ := hS.grownTail (n := xs.length + ys.length) (c := c') hE (by simp) hblk (.inl rfl) hnc hcs hcm
        refine ⟨_, .slice (some ⟨w.heap.size, 0, none⟩) (xs.length + ys.length) c', _, ok', _, by simp [execOp, resolve, invoke, builtin, g1, f1, hrun], ?_, by rw [hm2]; exact s1, s2, h _⟩
        refine RV.sl (by simp) (fun v hv => by injection hv with hv; exact hv.symm) hnc hcm (fun _ => ⟨w.heap.size, 0, es ++ es2, rfl, by rw [List.length_append, hes, e2, Nat.add_mul], fun j u hj => ?_, (hres.stp s2).append (e4.stp s2)⟩) (fun x hx => by
          rcases List.mem_append.1 hx with hx | hx
          · exact g6 x hx
          · exact f6 x hx)
        have hjl : j < (es ++ es2).length := (List.getElem?_eq_some_iff.1 hj).1
        rw [List.length_append, hes, e2, ← Nat.add_mul] at hjl
        rw [Nat.zero_add, cell_of_row _ _ _ _ _ _ hblk]
        refine ⟨?_, s3 j hjl⟩
        rw [← htake, List.getElem?_take_of_lt hjl] at hj
        simpa using hj
      cases A with
      | none =>
        have hx0 : xs = [] := by
          rcases Nat.eq_zero_or_pos xs.length with hx0 | hx0
          · exact List.eq_nil_of_length_eq_zero hx0
          · obtain ⟨_, _, _, r1, _⟩ := g5 hx0
            cases r1
        subst hx0
        have hc0 : c = 0 := by
          obtain ⟨pre, post, hm1, _⟩ := (hm undef).parts
          rw [hm1] at hS
          rcases hS.at_ (.tail E k (.slice none ([] : List AV).length c)) (by simp) with ⟨A', n', he⟩ | ⟨g, n', cap, cur, fr, he, _⟩
          · injection he with _ h2 h3
            simp at h2
            omega
          · cases he
        subst hc0
        have hr := run_append_nil (P := P) w T ty E i z t.l.out q1 q2 ⟨b2, o2, none⟩ ys.length c2 es2 hl2 hnew h0 (by simp at hsm; omega) (by rw [hib]; simp at hb; omega)
        refine hnew' _ (grownCap w ys.length 0 E) [] (by simp) (by rw [RCs]) ?_ ?_ ?_ (grownCap_le_maxLen w _ 0 E (by simpa using hl)) (by simpa using hr)
        · simp only [List.length_nil, Nat.zero_add, ← e2, Array.toList_append, List.nil_append]
          exact List.take_left
        · have hge := grownCap_ge w ys.length 0 E
          simp only [Array.size_append, List.size_toArray, size_zeroCells, hzk, e2, ← Nat.add_mul]
          congr 1
          omega
        · simpa using grownCap_ge w ys.length 0 E
      | some a =>
        have hold : ∃ es, es.length = xs.length * k ∧ (∀ j v, es[j]? = some v → w.cell? (a.add j) = some v) ∧ RCs ok w xs es := by
          rcases Nat.eq_zero_or_pos xs.length with hx0 | hx0
          · have : xs = [] := List.eq_nil_of_length_eq_zero hx0
            subst this
            exact ⟨[], by simp, by simp, by rw [RCs]⟩
          · obtain ⟨b', o', es, r1, r2, r3, r4⟩ := g5 hx0
            injection r1 with r1
            subst r1
            exact ⟨es, r2, fun j v hj => by rw [add_mid]; exact (r3 j v hj).1, r4⟩
        obtain ⟨es, r1, r2, r3⟩ := hold
        have hr := run_append_grow (P := P) w T ty E i z t.l.out q1 q2 a xs.length c es (by rw [hik]; exact r1) r2 ⟨b2, o2, none⟩ ys.length c2 es2 hl2 hnew (by omega) (by omega) (by rw [hib]; exact growslice_fits (by omega) hb)
        have hge := grownCap_ge w (xs.length + ys.length) c E
        refine hnew' _ (grownCap w (xs.length + ys.length) c E) es r1 r3 ?_ ?_ hge (grownCap_le_maxLen w _ c E hl) hr
        · simp only [Array.toList_append]
          rw [show (xs.length + ys.length) * k = (es ++ es2).length by rw [List.length_append, r1, e2, Nat.add_mul]]
          exact List.take_left
        · simp only [Array.size_append, List.size_toArray, size_zeroCells, hzk, r1, e2, ← Nat.add_mul]
          congr 1
          omega
end
end Av
