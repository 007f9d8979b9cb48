/- Law 10: what is right, proofs changed. -/
import Derived.Test.YtkijoddconipoaaDoorP1
import Derived.Test.YtkijoddconipoaaDoorP2
import Derived.Test.YtkijoddconipoaaDoorP3
import Derived.Test.YtkijoddconipoaaDoorP4
import Derived.Test.YtkijoddconipoaaDoorQ1
import Derived.Test.YtkijoddconipoaaDoorQ2
import Derived.Test.YtkijoddconipoaaDoorK1
import Derived.Test.YtkijoddconipoaaDoorQ3
import Derived.Test.YtkijoddconipoaaDoorQ4
import Derived.Test.YtkijoddconipoaaDoorQ5
import Derived.Test.YtkijoddconipoaaDoorQ6
import Derived.Test.YtkijoddconipoaaDoorQ7
import Derived.Test.YtkijoddconipoaaDoorQ8
import Derived.Test.YtkijoddconipoaaDoorQ10
import Derived.Test.YtkijoddconipoaaDoorR10
import Derived.Test.YtkijoddconipoaaDoorR11
import Derived.Test.YtkijoddconipoaaDoorR12
import Derived.Test.YtkijoddconipoaaDoorR13
import Derived.Test.YtkijoddconipoaaDoorR14
import Derived.Test.YtkijoddconipoaaDoorR15
namespace Av
open Go Go.RowKit Tw
theorem ImpC.nilT {k : Nat} : ImpC (.lit (.slice none 0 0)) (.sl k [] (some (.slice none 0 0))) := fun ok w cs h => by
  rw [RC] at h
  rw [RC]
  exact ⟨none, 0, h.1, by simp, Nat.le_refl _, by simp [maxLen], by simp, by simp⟩
theorem upon_mono {P : Program} {o : Oper} {a : Act} {next next' : Act → World → Prop} {Q Q' : Exit → Act → World → Prop} {r : Result Go.Next} (hn : ∀ a w, next a w → next' a w) (hq : ∀ e a w, Q e a w → Q' e a w) (h : o.upon P a next Q r) : o.upon P a next' Q' r := by
  unfold Oper.upon at h ⊢
  split at h
  · exact hn _ _ h
  · exact hn _ _ h
  · exact hn _ _ h
  · refine Calls.mono h fun x w' hx => ?_
    cases x with
    | returned v => exact hn _ _ hx
    | panicked c => exact hq _ _ _ hx
    | outgrown => exact let ⟨a, w, h⟩ := hx; ⟨a, w, hq _ _ _ h⟩
  · exact Rows.mono h fun v w' hx => hn _ _ hx
  · exact hq _ _ _ h
  · exact h.elim
theorem wpList_mono {P : Program} {ops : Array Oper} {Q Q' : Exit → Act → World → Prop} (hq : ∀ e a w, Q e a w → Q' e a w) : ∀ (l : List Oper) (a : Act) (w : World), wpList P ops Q l a w → wpList P ops Q' l a w
  | [], a, w, h => hq _ _ _ h
  | o :: l, a, w, h => by
    unfold wpList at h ⊢
    split at h
    · rename_i hw
      rw [if_pos hw]
      rcases h with h | ⟨h1, a', w', h2⟩
      · exact .inl (upon_mono (fun a w => wpList_mono hq l a w) hq h)
      · exact .inr ⟨h1, a', w', hq _ _ _ h2⟩
    · rename_i hw
      rw [if_neg hw]
      exact wpList_mono hq l _ _ h
section
variable {P : Program} {N : Nat} {ops : Array Oper} {Q : Exit → Act → World → Prop} {l : List Oper} {s : Base} {e : Env} {m : List Piece}
theorem al_mid {c2 : Code} {Q1 : Exit → Act → World → Prop} {α : Type} (I : α → Env) (M : α → List Piece) (h1 : AL P N ops (Exit.then (fun a w => ∃ z ok, Sat N ok w (I z) a ∧ St s ok (M z) w) Q) s l e m) (h2 : ∀ z, AC P N c2 Q1 s (I z) (M z)) : AL P N ops (Exit.then (fun a w => c2.wp P Q1 a w) Q) s l e m := AL.mk fun ok w a hS ha =>
  wpList_mono (fun x a' w' hx => by cases x <;> first | (obtain ⟨z, ok', g1, g2⟩ := hx; exact (h2 z).run _ _ _ g2 g1) | exact hx) _ _ _ (h1.run ok w a hS ha)
/-- a join behind a block -/
theorem ac_midB {c c2 : Code} {id : Nat} {Q1 : Exit → Act → World → Prop} {α : Type} (I : α → Env) (M : α → List Piece) (h1 : AC P N c (Exit.inBlock id (Exit.then (fun a w => ∃ z ok, Sat N ok w (I z) a ∧ St s ok (M z) w) Q)) s e m) (h2 : ∀ z, AC P N c2 Q1 s (I z) (M z)) : AC P N c (Exit.inBlock id (Exit.then (fun a w => c2.wp P Q1 a w) Q)) s e m := AC.mk fun ok w a hS ha =>
  wp_mono (h1.run ok w a hS ha) fun x a' w' hx => by
    cases x with
    | normal => obtain ⟨z, ok', g1, g2⟩ := hx; exact (h2 z).run _ _ _ g2 g1
    | exit j =>
      by_cases hj : j = id
      · simp only [Exit.inBlock, hj, if_true] at hx ⊢
        obtain ⟨z, ok', g1, g2⟩ := hx
        exact (h2 z).run _ _ _ g2 g1
      · simp only [Exit.inBlock, hj, if_false] at hx ⊢
        exact hx
    | _ => exact hx
/-- a function's end, by a contract of whatever kind, its answer told otherwise, with pieces handed back -/
theorem reIKm {fn : Func} {K : AV → List Piece → Prop} {rs : List ResultVar} {vs : List AV} (out : AV) (m' : List Piece) (h : Imp (outOf vs) out) (hK : K out m') (hm : m'.Sublist m) (hr : fn.results = rs.toArray := by exact rfl) (hh : Ress P N s e m rs vs := by
    repeat (first | exact Av.ress_nil | (apply Av.ress_cons; (first | (apply Av.res_tmp; exact rfl; exact rfl) | (apply Av.res_cell; exact rfl; (repeat (first | exact Av.Has.here | apply Av.Has.there)); exact rfl))))) : AE N .ret (bodyPost P fn (Back s K)) s e m := AE.mk fun ok w a hS ha => by
  have h1 := (ae_ret (K := fun v m'' => v = outOf vs ∧ m'' = m') (m := m) hr hh (.inl rfl) ⟨rfl, rfl⟩ hm).run ok w a hS ha
  obtain ⟨d, cv, r, v, m'', ok', cv', ⟨rfl, rfl⟩, e1, hv, hS'⟩ := h1
  exact ⟨d, cv, r, out, m'', ok', cv', hK, e1, h _ _ _ hv, hS'⟩
end
end Av

namespace Av
open Go Go.RowKit Tw
section
variable {P : Program} {N : Nat} {s : Base} {e : Env} {m : List Piece}
/-- a function's end by a contract of whatever kind, its answer told otherwise -/
theorem reIK {fn : Func} {K : AV → List Piece → Prop} {rs : List ResultVar} {vs : List AV} (out : AV) (h : Imp (outOf vs) out) (hK : K out []) (hr : fn.results = rs.toArray := by exact rfl) (hh : Ress P N s e m rs vs := by
    repeat (first | exact Av.ress_nil | (apply Av.ress_cons; (first | (apply Av.res_tmp; exact rfl; exact rfl) | (apply Av.res_cell; exact rfl; (repeat (first | exact Av.Has.here | apply Av.Has.there)); exact rfl))))) : AE N .ret (bodyPost P fn (Back s K)) s e m := AE.mk fun ok w a hS ha => by
  have h1 := (ae_ret (K := fun v m' => v = outOf vs ∧ m' = []) (m := m) hr hh (.inl rfl) ⟨rfl, rfl⟩ (List.nil_sublist _)).run ok w a hS ha
  obtain ⟨d, cv, r, v, m'', ok', cv', ⟨rfl, rfl⟩, e1, hv, hS'⟩ := h1
  exact ⟨d, cv, r, out, [], ok', cv', hK, e1, h _ _ _ hv, hS'⟩
end
end Av
namespace Go.Proofs.YtkijoddconipoaaDoor
open Go Go.RowKit Tw Av
instance {k : Nat} : ImpT (.lit (.slice none 0 0)) (.sl k [] (some (.slice none 0 0))) := ⟨ImpC.nilS⟩
abbrev gpR (A : Option Addr) (x : Gp) : AV := .agg 9 [int x.n, .sl 2 (x.l.map entA) none, .sl 2 (x.r.map entA) (some (.slice A x.r.length x.r.length)), prfA x.a, prfA x.b]
theorem rabsK {d : List Ent} {k : Bs} (hl : d.length ≤ 2000) (hsr : Srt d) : Av.Spec Tryd.prog GL 62 [.sl 2 (d.map entA) none, str k] [] fun v m => ∃ A, v = .tup [gpR A (absG d (fndAt d k) (fndIs d k)), boo (!fndIs d k)] ∧ m = [] := by
  have hm : (d.map entA).length = d.length := List.length_map _
  refine spec_enter Tryd.func62 rfl Tryd.ntmps62 rfl (fun _ hs => ?_)
  repeat' (first | refine W ?_ | refine op2 ?_ | refine ob4 ?_ | refine ob2 (fun _ => ?_) | intro _ | simp only [List.set])
  cases hb : fndIs d k
  focus
    repeat' (first | refine ct1 ?_ | refine op1 ?_ | refine op2 ?_ | intro _ | simp only [List.set] | refine gdT ?_ | refine gdF ?_ | refine cdT ?_ | refine cdF ?_ | fail)
    have hle := fndAt_le d k
    generalize fndAt d k = n at *
    have e2 : ∀ n : Nat, (((n + 1 : Nat) : Int) - 1) = n := fun n => by omega
    by_cases h1 : n < d.length
    focus
      rcases n with _ | n
      focus
        repeat' (first | refine ct1 ?_ | refine op1 ?_ | refine op2 ?_ | intro _ | simp only [List.set] | refine gdT ?_ | refine gdF ?_ | refine cdT ?_ | refine cdF ?_ | fail)
      rotate_left
      focus
        repeat' (first | refine ct1 ?_ | refine op1 ?_ | refine op2 ?_ | intro _ | simp only [List.set] | refine gdT ?_ | refine gdF ?_ | refine cdT ?_ | refine cdF ?_ | fail)
        rw [e2]
        repeat' (first | refine ct1 ?_ | refine op1 ?_ | refine op2 ?_ | intro _ | simp only [List.set] | refine gdT ?_ | refine gdF ?_ | refine cdT ?_ | refine cdF ?_ | fail)
        refine opL ?_
        repeat' (first | refine ct1 ?_ | refine op1 ?_ | refine op2 ?_ | intro _ | simp only [List.set] | refine gdT ?_ | refine gdF ?_ | refine cdT ?_ | refine cdF ?_ | fail)
        rw [e2]
        repeat' (first | refine ct1 ?_ | refine op1 ?_ | refine op2 ?_ | intro _ | simp only [List.set] | refine gdT ?_ | refine gdF ?_ | refine cdT ?_ | refine cdF ?_ | fail)
        rw [memP_at hsr (show n < d.length by omega)]
      all_goals
        refine al_buildB (fun g => ?_)
        refine al_freeze 49 ?_
        repeat' (first | refine ct1 ?_ | refine op1 ?_ | refine op2 ?_ | intro _ | simp only [List.set] | refine gdT ?_ | refine gdF ?_ | refine cdT ?_ | refine cdF ?_ | fail)
        rw [memP_at hsr h1]
        repeat' (first | refine ct1 ?_ | refine op1 ?_ | refine op2 ?_ | intro _ | simp only [List.set] | refine gdT ?_ | refine gdF ?_ | refine cdT ?_ | refine cdF ?_ | fail)
        refine reIK (.tup [gpR (some ⟨g, 0, none⟩) (absG d _ false), boo true]) ?_ ⟨_, rfl, rfl⟩
        simp only [outOf, e2, hm, absG, atP, gpR, prfA, zeroP, Nat.lt_irrefl, Nat.zero_lt_succ, Nat.add_sub_cancel, h1, if_true, if_false, List.map_cons, List.map_nil, Bool.not_false, Bool.false_eq_true, List.length_cons, List.length_nil]
        try rw [getD_at (show n < d.length by omega)]
        try rw [getD_at h1]
        exact ImpR.imp
    focus
      rcases n with _ | n
      focus
        repeat' (first | refine ct1 ?_ | refine op1 ?_ | refine op2 ?_ | intro _ | simp only [List.set] | refine gdT ?_ | refine gdF ?_ | refine cdT ?_ | refine cdF ?_ | fail)
      rotate_left
      focus
        repeat' (first | refine ct1 ?_ | refine op1 ?_ | refine op2 ?_ | intro _ | simp only [List.set] | refine gdT ?_ | refine gdF ?_ | refine cdT ?_ | refine cdF ?_ | fail)
        rw [e2]
        repeat' (first | refine ct1 ?_ | refine op1 ?_ | refine op2 ?_ | intro _ | simp only [List.set] | refine gdT ?_ | refine gdF ?_ | refine cdT ?_ | refine cdF ?_ | fail)
        refine opL ?_
        repeat' (first | refine ct1 ?_ | refine op1 ?_ | refine op2 ?_ | intro _ | simp only [List.set] | refine gdT ?_ | refine gdF ?_ | refine cdT ?_ | refine cdF ?_ | fail)
        rw [e2]
        repeat' (first | refine ct1 ?_ | refine op1 ?_ | refine op2 ?_ | intro _ | simp only [List.set] | refine gdT ?_ | refine gdF ?_ | refine cdT ?_ | refine cdF ?_ | fail)
        rw [memP_at hsr (show n < d.length by omega)]
        repeat' (first | refine ct1 ?_ | refine op1 ?_ | refine op2 ?_ | intro _ | simp only [List.set] | refine gdT ?_ | refine gdF ?_ | refine cdT ?_ | refine cdF ?_ | fail)
      all_goals
        refine reIK (.tup [gpR none (absG d _ false), boo true]) ?_ ⟨_, rfl, rfl⟩
        simp only [outOf, e2, hm, absG, atP, gpR, prfA, zeroP, Nat.lt_irrefl, Nat.zero_lt_succ, Nat.add_sub_cancel, h1, if_true, if_false, List.map_cons, List.map_nil, Bool.not_false, Bool.false_eq_true, List.length_nil]
        try rw [getD_at (show n < d.length by omega)]
        exact ImpR.imp
  focus
    repeat' (first | refine ct1 ?_ | refine op1 ?_ | refine op2 ?_ | intro _ | simp only [List.set] | refine gdT ?_ | refine gdF ?_ | refine cdT ?_ | refine cdF ?_ | fail)
    refine reIK (.tup [gpR none (absG d _ true), boo false]) ?_ ⟨_, rfl, rfl⟩
    simp only [outOf, absG, gpR, prfA, if_true, zeroG, zeroP, List.map_nil, Bool.not_true, List.length_nil]
    exact ImpR.imp
end Go.Proofs.YtkijoddconipoaaDoor

namespace Go.Proofs.YtkijoddconipoaaDoor
open Go Go.RowKit Tw Av
structure PB (B : Int) (p : Prf) : Prop where
  a : -B ≤ p.a ∧ p.a ≤ B
  m : -B ≤ p.m ∧ p.m ≤ B
  l : (p.p.length : Int) ≤ B
theorem chP_pb {B : Int} {c : Chg} {p : Prf} (h : PB B p) (h0 : 0 ≤ B) : PB (B + 1) (chP c p) := by
  obtain ⟨⟨h1, h2⟩, ⟨h3, h4⟩, h5⟩ := h
  unfold chP
  split
  · exact ⟨⟨by dsimp only; omega, by dsimp only; omega⟩, ⟨by dsimp only; omega, by dsimp only; omega⟩, by dsimp only; omega⟩
  split
  · exact ⟨⟨by dsimp only; omega, by dsimp only; omega⟩, ⟨by dsimp only; omega, by dsimp only; omega⟩, by dsimp only; omega⟩
  split
  · exact ⟨⟨by dsimp only; omega, by dsimp only; omega⟩, ⟨by dsimp only; omega, by dsimp only; omega⟩, by simp only [List.length_set]; omega⟩
  split
  · exact ⟨⟨by dsimp only; omega, by dsimp only; omega⟩, ⟨by dsimp only; omega, by dsimp only; omega⟩, by simp only [List.length_append, List.length_cons, List.length_nil]; omega⟩
  split
  · exact ⟨⟨by dsimp only; omega, by dsimp only; omega⟩, ⟨by dsimp only; omega, by dsimp only; omega⟩, by simp only [List.length_take]; omega⟩
  · exact ⟨⟨by omega, by omega⟩, ⟨by omega, by omega⟩, by omega⟩
theorem zeroP_pb : PB 10 zeroP := ⟨by decide, by decide, by decide⟩
theorem atP_pb {d : List Ent} {i : Int} (hd : d.length ≤ 10) (h0 : -1 ≤ i) (h1 : i ≤ 10) : PB 10 (atP d i) := by
  have := atP_len hd i
  exact ⟨by simp only [atP]; omega, by simp only [atP]; omega, by omega⟩
theorem memP_pb {d : List Ent} {i : Nat} {b : Bool} (hd : d.length ≤ 10) (h : i ≤ d.length) : PB 10 (memP d i b) := by
  unfold memP
  split
  · exact atP_pb hd (by omega) (by omega)
  · exact zeroP_pb
structure GB (G : Gp) : Prop where
  n : 0 ≤ G.n ∧ G.n ≤ 10
  l : G.l.length ≤ 1
  r : G.r.length ≤ 1
  a : PB 10 G.a
  b : PB 10 G.b
theorem absG_gb {d : List Ent} {n : Nat} {b : Bool} (hd : d.length ≤ 10) (hn : n ≤ d.length) : GB (absG d n b) := by
  unfold absG
  split
  · exact ⟨by decide, by decide, by decide, zeroP_pb, zeroP_pb⟩
  · refine ⟨by dsimp only; omega, ?_, ?_, ?_, ?_⟩
    · dsimp only
      split <;> simp
    · dsimp only
      split <;> simp
    · dsimp only
      split
      · exact atP_pb hd (by omega) (by omega)
      · exact zeroP_pb
    · dsimp only
      split
      · exact atP_pb hd (by omega) (by omega)
      · exact zeroP_pb
theorem fnd_lt {l : List Ent} {k : Bs} (h : fndIs l k = true) : fndAt l k < l.length := by
  rw [fndIs] at h
  exact (of_decide_eq_true h).1
set_option maxHeartbeats 4000000 in
instance fnProofChecks {l : List Ent} {xk xv key : Bs} {own oth : Bool} {k1 a1 k2 a2 drop : Int} {t1 t2 : UInt8} {xs : List AV} {id : Option Value} [hx : Ents xs l] : Ans Tryd.prog GL 15 [.sl 2 xs id, .agg 2 [str xk, str xv], .agg 10 [str key, boo own, boo oth, chgA ⟨k1, a1, t1⟩, chgA ⟨k2, a2, t2⟩, int drop]]
    (((-9223372036854775808 ≤ k1 ∧ k1 ≤ 9223372036854775807) ∧ -9223372036854775808 ≤ a1 ∧ a1 ≤ 9223372036854775807) ∧ (-9223372036854775808 ≤ k2 ∧ k2 ≤ 9223372036854775807) ∧ -9223372036854775808 ≤ a2 ∧ a2 ≤ 9223372036854775807) (boo true) := ⟨fun hpre => by
  have h1 := hx.out
  subst h1
  refine spec_enter Tryd.func15 rfl Tryd.ntmps15 rfl (fun _ hs => ?_)
  repeat' (first | refine W ?_ | refine op2 ?_ | refine ob4 ?_ | refine ob2 (fun _ => ?_) | intro _ | simp only [List.set])
  have h3 := few10_len l
  have h5 : id = id → Srt (few10 l) := fun _ => few10_srt l
  generalize few10 l = f at *
  have hm : (f.map entA).length = f.length := List.length_map _
  repeat' (first | refine W ?_ | refine op2 ?_ | refine ob4 ?_ | refine ob2 (fun _ => ?_) | intro _ | simp only [List.set])
  generalize topH f.length (treeH (f.map leafH)) = R
  rcases R with ⟨_ | ⟨b, bs⟩, hbl⟩
  focus
    simp at hbl
  rename_i g4 g5 g9
  refine ac_mid (α := Hsh) (fun _ => [(4, ptr g4), (5, ptr g5), (7, boo true), (8, .sl 2 (f.map entA) none), (9, ptr g9)])
    (fun R => [.var g9 24 (hA R), .var g5 92 (.agg 10 [str key, boo own, boo oth, chgA ⟨k1, a1, t1⟩, chgA ⟨k2, a2, t2⟩, int drop]), .var g4 29 (.agg 2 [str xk, str xv])]) ?_ (fun R => ?_)
  focus
    refine ac_condB (fun ho => ?_) (fun ho => ?_)
    focus
      repeat' (first | refine W ?_ | refine op2 ?_ | refine ob4 ?_ | refine ob2 (fun _ => ?_) | intro _ | simp only [List.set])
      refine ae_cut ⟨(b ^^^ 1) :: bs, hbl⟩ ⟨rfl, rfl, rfl, rfl, rfl, trivial⟩ ?_
      exact List.Sublist.refl _
    focus
      repeat' (first | refine W ?_ | refine op2 ?_ | refine ob4 ?_ | refine ob2 (fun _ => ?_) | intro _ | simp only [List.set])
      exact ae_cut ⟨b :: bs, hbl⟩ ⟨rfl, rfl, rfl, rfl, rfl, trivial⟩ (List.Sublist.refl _)
  repeat' (first | refine W ?_ | refine op2 ?_ | refine ob4 ?_ | refine ob2 (fun _ => ?_) | intro _ | simp only [List.set])
  have hle := fndAt_le f (key.take (Int.toNat 12))
  have hlt := fnd_lt (l := f) (k := key.take (Int.toNat 12))
  generalize hK : key.take (Int.toNat 12) = K at *
  generalize hX : xk.take (Int.toNat 12) = XK at *
  generalize hV : xv.take (Int.toNat 12) = XV at *
  have hP := memP_pb (i := fndAt f K) (b := fndIs f K) h3 hle
  obtain ⟨p1, p2, p3⟩ := hP
  generalize memP f (fndAt f K) (fndIs f K) = P at *
  rename_i g13
  refine al_mid (α := Unit) (fun _ => [(4, ptr g4), (5, ptr g5), (7, boo true), (8, .sl 2 (f.map entA) none), (9, ptr g9), (10, str K), (11, int (fndAt f K)), (13, ptr g13), (55, boo (fndIs f K && own))])
    (fun _ => [.var g13 97 (prfA P), .var g9 24 (hA R), .var g5 92 (.agg 10 [str key, boo own, boo oth, chgA ⟨k1, a1, t1⟩, chgA ⟨k2, a2, t2⟩, int drop]), .var g4 29 (.agg 2 [str XK, str XV])]) ?_ (fun _ => ?_)
  focus
    cases own <;> cases hb : fndIs f K
    all_goals
      repeat' (first | refine W ?_ | refine op2 ?_ | refine ob4 ?_ | refine ob2 (fun _ => ?_) | intro _ | simp only [List.set])
      exact ae_cut () ⟨rfl, rfl, rfl, rfl, rfl, rfl, rfl, rfl, rfl, trivial⟩ (List.Sublist.refl _)
  refine ac_mid (α := Ent) (fun _ => [(4, ptr g4), (5, ptr g5), (7, boo true), (8, .sl 2 (f.map entA) none), (9, ptr g9), (10, str K), (13, ptr g13)])
    (fun x => [.var g13 97 (prfA P), .var g9 24 (hA R), .var g5 92 (.agg 10 [str key, boo own, boo oth, chgA ⟨k1, a1, t1⟩, chgA ⟨k2, a2, t2⟩, int drop]), .var g4 29 (entA x)]) ?_ (fun x => ?_)
  focus
    refine ac_condB (fun ho => ?_) (fun ho => ?_)
    focus
      have hfl : fndAt f K < f.length := hlt (by simp only [Bool.and_eq_true] at ho; exact ho.1)
      repeat' (first | refine W ?_ | refine op2 ?_ | refine ob4 ?_ | refine ob2 (fun _ => ?_) | intro _ | simp only [List.set])
      exact ae_cut f[fndAt f K] ⟨rfl, rfl, rfl, rfl, rfl, rfl, rfl, trivial⟩ (List.Sublist.refl _)
    focus
      repeat' (first | refine W ?_ | refine op2 ?_ | refine ob4 ?_ | refine ob2 (fun _ => ?_) | intro _ | simp only [List.set])
      exact ae_cut ⟨XK, XV⟩ ⟨rfl, rfl, rfl, rfl, rfl, rfl, rfl, trivial⟩ (List.Sublist.refl _)
  rcases x with ⟨xk2, xv2⟩
  repeat' (first | refine W ?_ | refine op2 ?_ | refine ob4 ?_ | refine ob2 (fun _ => ?_) | intro _ | simp only [List.set])
  have h5 := h5 rfl
  refine al_callK (args := [.sl 2 (f.map entA) none, str K]) [] _ (by rw [hs]; exact rabsK (by omega) h5) (fun v m1 hh => ?_) (List.Perm.refl _)
  obtain ⟨A, rfl, rfl⟩ := hh
  have hG := absG_gb (n := fndAt f K) (b := fndIs f K) h3 hle
  generalize absG f (fndAt f K) (fndIs f K) = G at *
  obtain ⟨⟨q1, q2⟩, q3, q4, hA, hB⟩ := hG
  obtain ⟨hPa, hPb, hPc⟩ := chP_pb (c := ⟨k1, a1, t1⟩) ⟨p1, p2, p3⟩ (by decide)
  generalize chP ⟨k1, a1, t1⟩ ⟨P.a, P.m, P.p⟩ = P2 at *
  obtain ⟨b1, b2, b3⟩ := hA
  obtain ⟨b4, b5, b6⟩ := hB
  repeat' (first | refine W ?_ | refine op2 ?_ | refine ob4 ?_ | refine ob2 (fun _ => ?_) | intro _ | simp only [List.set])
  obtain ⟨c1, c2, c3⟩ := chP_pb (c := ⟨k1, a1, t1⟩) ⟨b1, b2, b3⟩ (by decide)
  generalize chP ⟨k1, a1, t1⟩ ⟨G.a.a, G.a.m, G.a.p⟩ = GA at *
  obtain ⟨c4, c5, c6⟩ := chP_pb (c := ⟨k2, a2, t2⟩) ⟨b4, b5, b6⟩ (by decide)
  generalize chP ⟨k2, a2, t2⟩ ⟨G.b.a, G.b.m, G.b.p⟩ = GB at *
  rename_i g15
  rcases (by omega : drop = 1 ∨ drop = 2 ∨ drop = 3 ∨ drop = 4 ∨ (drop ≠ 1 ∧ drop ≠ 2 ∧ drop ≠ 3 ∧ drop ≠ 4)) with hd | hd | hd | hd | ⟨hd1, hd2, hd3, hd4⟩
  focus
    repeat' (first | refine ct1 ?_ | refine op1 ?_ | refine op2 ?_ | intro _ | simp only [List.set] | refine gdT ?_ | refine gdF ?_ | refine cdT ?_ | refine cdF ?_ | fail)
    refine ac_asV (g := g15) (v' := gpA ⟨G.n, [], G.r, GA, GB⟩) (inferInstance : ImpT _ (.agg 9 [int G.n, .sl 2 [] none, .sl 2 (G.r.map entA) none, prfA GA, prfA GB])).imp ?_
    repeat' (first | refine W ?_ | refine op2 ?_ | refine ob4 ?_ | refine ob2 (fun _ => ?_) | intro _ | simp only [List.set] | refine gdT ?_ | refine gdF ?_ | refine cdT ?_ | refine cdF ?_ | fail)
    refine reE ?_
    rfl
  focus
    repeat' (first | refine ct1 ?_ | refine op1 ?_ | refine op2 ?_ | intro _ | simp only [List.set] | refine gdT ?_ | refine gdF ?_ | refine cdT ?_ | refine cdF ?_ | fail)
    refine ac_asV (g := g15) (v' := gpA ⟨G.n, G.l, [], GA, GB⟩) (inferInstance : ImpT _ (.agg 9 [int G.n, .sl 2 (G.l.map entA) none, .sl 2 [] none, prfA GA, prfA GB])).imp ?_
    repeat' (first | refine W ?_ | refine op2 ?_ | refine ob4 ?_ | refine ob2 (fun _ => ?_) | intro _ | simp only [List.set] | refine gdT ?_ | refine gdF ?_ | refine cdT ?_ | refine cdF ?_ | fail)
    refine reE ?_
    rfl
  focus
    repeat' (first | refine ct1 ?_ | refine op1 ?_ | refine op2 ?_ | intro _ | simp only [List.set] | refine gdT ?_ | refine gdF ?_ | refine cdT ?_ | refine cdF ?_ | fail)
    refine ac_asV (g := g15) (v' := gpA ⟨G.n + 1, G.l, G.r, GA, GB⟩) (inferInstance : ImpT _ _).imp ?_
    repeat' (first | refine W ?_ | refine op2 ?_ | refine ob4 ?_ | refine ob2 (fun _ => ?_) | intro _ | simp only [List.set] | refine gdT ?_ | refine gdF ?_ | refine cdT ?_ | refine cdF ?_ | fail)
    refine reE ?_
    rfl
  focus
    repeat' (first | refine ct1 ?_ | refine op1 ?_ | refine op2 ?_ | intro _ | simp only [List.set] | refine gdT ?_ | refine gdF ?_ | refine cdT ?_ | refine cdF ?_ | fail)
    refine opL ?_
    refine al_st (fun ok w h => h.full 29 2 A G.r.length) ?_
    refine al_append (fun v' => ?_)
    repeat' (first | refine ct1 ?_ | refine op1 ?_ | refine op2 ?_ | intro _ | simp only [List.set] | refine gdT ?_ | refine gdF ?_ | refine cdT ?_ | refine cdF ?_ | fail)
    refine ac_asV (g := g15) (v' := gpA ⟨G.n, G.l, G.r ++ [⟨xk2, xv2⟩], GA, GB⟩) ?_ ?_
    focus
      show ImpC _ (.agg 9 [int G.n, .sl 2 (G.l.map entA) none, .sl 2 ((G.r ++ [(⟨xk2, xv2⟩ : Ent)]).map entA) none, prfA GA, prfA GB])
      rw [List.map_append]
      exact (inferInstance : ImpT _ (.agg 9 [int G.n, .sl 2 (G.l.map entA) none, .sl 2 (G.r.map entA ++ [entA ⟨xk2, xv2⟩]) none, prfA GA, prfA GB])).imp
    repeat' (first | refine W ?_ | refine op2 ?_ | refine ob4 ?_ | refine ob2 (fun _ => ?_) | intro _ | simp only [List.set] | refine gdT ?_ | refine gdF ?_ | refine cdT ?_ | refine cdF ?_ | fail)
    refine reE ?_
    rfl
  focus
    repeat' (first | refine ct1 ?_ | refine op1 ?_ | refine op2 ?_ | intro _ | simp only [List.set] | refine gdT ?_ | refine gdF ?_ | refine cdT ?_ | refine cdF ?_ | fail)
    refine ac_asV (g := g15) (v' := gpA ⟨G.n, G.l, G.r, GA, GB⟩) (inferInstance : ImpT _ _).imp ?_
    repeat' (first | refine W ?_ | refine op2 ?_ | refine ob4 ?_ | refine ob2 (fun _ => ?_) | intro _ | simp only [List.set] | refine gdT ?_ | refine gdF ?_ | refine cdT ?_ | refine cdF ?_ | fail)
    refine reE ?_
    rfl⟩
end Go.Proofs.YtkijoddconipoaaDoor
