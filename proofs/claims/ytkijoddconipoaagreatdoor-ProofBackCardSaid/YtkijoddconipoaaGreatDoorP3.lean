/- The engine: calls, own rows. -/
import Derived.Lib.ConvBytes
import Derived.Lib.AppendZeros
import Derived.Lib.AppendZerosOnto
import Derived.Laws.Externs
import Derived.Lib.Overlaps
import Derived.Test.YtkijoddconipoaaGreatDoorP1
import Derived.Test.YtkijoddconipoaaGreatDoorP2
namespace Av
open Go Go.RowKit Tw
/-- a call's end: it returns v with K, and leaves the pieces m' -/
def Back (s : Base) (K : AV → List Piece → Prop) (x : Ending) (w' : World) : Prop := ∃ v m' ok' cv, K v m' ∧ x = .returned cv ∧ RV ok' w' v cv ∧ St s ok' m' w'
/-- what a function does: given args and the pieces m, it returns v and leaves m', with K -/
def Spec (P : Program) (gl : List (Nat × AV)) (f : FuncId) (args : List AV) (m : List Piece) (K : AV → List Piece → Prop) : Prop :=
  ∀ ok w cargs, St (lent gl m ok w) ok m w → RVs ok w args cargs → Calls P f cargs.toArray w (Back (lent gl m ok w) K)
/-- it only answers -/
abbrev SpecE (P : Program) (gl : List (Nat × AV)) (f : FuncId) (args : List AV) (out : AV) : Prop := Spec P gl f args [] fun v m' => v = out ∧ m' = []
theorem Spec.mk {P : Program} {gl : List (Nat × AV)} {f : FuncId} {args : List AV} {m : List Piece} {K : AV → List Piece → Prop} (h : ∀ ok w cargs, St (lent gl m ok w) ok m w → RVs ok w args cargs → Calls P f cargs.toArray w (Back (lent gl m ok w) K)) : Spec P gl f args m K := h
theorem Spec.run {P : Program} {gl : List (Nat × AV)} {f : FuncId} {args : List AV} {m : List Piece} {K : AV → List Piece → Prop} (h : Spec P gl f args m K) : ∀ ok w cargs, St (lent gl m ok w) ok m w → RVs ok w args cargs → Calls P f cargs.toArray w (Back (lent gl m ok w) K) := h
theorem Spec.mono {P : Program} {gl : List (Nat × AV)} {f : FuncId} {args : List AV} {m : List Piece} {K K' : AV → List Piece → Prop} (h : Spec P gl f args m K) (hk : ∀ v m', K v m' → K' v m') : Spec P gl f args m K' := fun ok w c hS hv =>
  Calls.mono (h ok w c hS hv) fun _ _ ⟨v, m', ok', cv, g, r⟩ => ⟨v, m', ok', cv, hk v m' g, r⟩

section
variable {P : Program} {N : Nat} {ops : Array Oper} {Q : Exit → Act → World → Prop} {rest : List Oper} {s : Base} {e : Env} {m : List Piece} {d : Nat} {ty : TypeId} {pos : String} {af : Array Edge} {gl : List (Nat × AV)}
def argE : Nat → List AV → Env
  | _, [] => []
  | i, v :: vs => (i, v) :: argE (i + 1) vs
theorem argE_lk : ∀ (vs : List AV) (i t : Nat) (v : AV), lk (argE i vs) t = some v → i ≤ t ∧ vs[t - i]? = some v
  | [], i, t, v, h => by simp [argE, lk] at h
  | u :: vs, i, t, v, h => by
    unfold argE lk at h
    by_cases hi : i = t
    · subst hi
      simp at h
      simp [h]
    · simp [beq_ff hi] at h
      obtain ⟨h1, h2⟩ := argE_lk vs (i + 1) t v h
      refine ⟨by omega, ?_⟩
      rw [show t - i = (t - (i + 1)) + 1 by omega]
      simpa using h2
theorem spec_enter {f : FuncId} {fn : Func} {c : Code} {args : List AV} {K : AV → List Piece → Prop} (hf : P.funcs[f]? = some fn) (hb : fn.body = some c) (hN : fn.ntmps = N) (hl' : Nat.ble args.length N = true)
    (h : ∀ s : Base, s.gl = gl → AC P N c (bodyPost P fn (Back s K)) s (argE 0 args) m) : Spec P gl f args m K := fun ok w cargs hS hv => by
  have hl : args.length ≤ N := Nat.le_of_ble_eq_true hl'
  have hcl := hv.length
  refine calls_of_wp hf hb ((h _ rfl).run ok w _ hS ⟨?_, rfl, ?_⟩)
  · simp [hN]; omega
  · intro t v ht
    obtain ⟨_, h2⟩ := argE_lk args 0 t v ht
    simp only [Nat.sub_zero] at h2
    obtain ⟨u, h3, h4⟩ := hv.get h2
    have hlt : t < cargs.length := (List.getElem?_eq_some_iff.1 h3).1
    have h5 : cargs[t] = u := (List.getElem?_eq_some_iff.1 h3).2
    have h6 := RV.of0 h4
    simpa [Array.getElem?_append, hlt, h5] using h6

/-- a result is v -/
def Res (P : Program) (N : Nat) (s : Base) (e : Env) (m : List Piece) (r : ResultVar) (v : AV) : Prop := ∀ ok w a, St s ok m w → Sat N ok w e a → ∃ u, RV0 ok w v u ∧ (match r with
  | .tmp t => a.tmps.getD t undef = u
  | .cell x t => ∃ p, a.tmps.getD x undef = .pointer (some p) ∧ (loadVar t p).run P w = .ok u w)
theorem res_tmp {t : Nat} {v : AV} (h : lk e t = some v) (hn : noTup v = true) : Res P N s e m (.tmp t) v := fun _ _ a _ ha => ⟨_, (ha.env t v h).to0 (by rintro vs rfl; simp [noTup] at hn), rfl⟩
theorem res_cell {x : Nat} {T : TypeId} {a : Bool} {k : Nat} [t : Ty P T a k] {g : Nat} {T0 : TypeId} {v u : AV} (hx : lk e x = some (ptr g)) (hm : Has m (.var g T0 v)) (hv : getV a k 8 v 0 = some u) : Res P N s e m (.cell x T) u := fun ok w A hS hA => by
  obtain ⟨cs, hb, hg⟩ := hS.at_ _ hm.mem
  obtain ⟨x', c, y, e1, e2, e3, e4, e5⟩ := getV_spec hv hg
  have hr := run_loadVar_es (P := P) t (b := g) (o := 0) (fun j v hv => by rw [← e2]; exact var_cells hb e1 j v hv) e4 e3 e5
  exact ⟨_, e5 ▸ RV0.mk e4, _, RV.lit (hA.env x _ hx), hr⟩
/-- several -/
def Ress (P : Program) (N : Nat) (s : Base) (e : Env) (m : List Piece) : List ResultVar → List AV → Prop
  | [], vs => vs = []
  | r :: rs, vs => ∃ u us, vs = u :: us ∧ Res P N s e m r u ∧ Ress P N s e m rs us
theorem ress_nil : Ress P N s e m [] [] := rfl
theorem ress_cons {r : ResultVar} {rs : List ResultVar} {v : AV} {vs : List AV} (h : Res P N s e m r v) (k : Ress P N s e m rs vs) : Ress P N s e m (r :: rs) (v :: vs) := ⟨v, vs, rfl, h, k⟩
def resF (a : Act) : ResultVar → Sem Value
  | .tmp t => pure (a.tmps.getD t undef)
  | .cell x t => do loadVar t (← asAddr (a.tmps.getD x undef))
theorem ress_run {ok : Ok} {w : World} {a : Act} (hS : St s ok m w) (ha : Sat N ok w e a) : ∀ {rs : List ResultVar} {vs : List AV}, Ress P N s e m rs vs → ∃ us : List Value, RVs ok w vs us ∧ (rs.mapM (resF a)).run P w = .ok us w
  | [], vs, h => by
    obtain rfl := (show vs = [] from h)
    exact ⟨[], rfl, by simp⟩
  | r :: rs, _, ⟨v, vs, rfl, h1, h2⟩ => by
    obtain ⟨us, g1, g2⟩ := ress_run hS ha h2
    obtain ⟨u, f1, f2⟩ := h1 ok w a hS ha
    refine ⟨u :: us, ⟨u, us, rfl, f1, g1⟩, ?_⟩
    rw [List.mapM_cons]
    cases r with
    | tmp t =>
      simp only at f2
      subst f2
      simp only [resF, Sem.run_bind, Sem.run_pure, Result.andThen_ok, g2]
    | cell x t =>
      obtain ⟨p, f2, f3⟩ := f2
      simp only [resF, f2, asAddr, Sem.run_bind, Sem.run_pure, Result.andThen_ok, f3, g2]
def outOf : List AV → AV
  | [v] => v
  | vs => .tup vs
theorem ae_ret {fn : Func} {K : AV → List Piece → Prop} {rs : List ResultVar} {vs : List AV} {m' : List Piece} {x : Exit} (hr : fn.results = rs.toArray) (h : Ress P N s e m rs vs) (hx : x = .ret ∨ x = .normal) (hK : K (outOf vs) m') (hm : m'.Sublist m) : AE N x (bodyPost P fn (Back s K)) s e m := AE.mk fun ok w a hS ha => by
  obtain ⟨us, h1, h2⟩ := ress_run hS ha h
  have hlen := h1.length
  have h3 : (results fn a.tmps).run P w = .ok (if hh : us.toArray.size = 1 then us.toArray[0] else .tuple us.toArray) w := by
    have h5 : results fn a.tmps = (do let vs ← fn.results.mapM (resF a); pure (if h : vs.size = 1 then vs[0] else .tuple vs)) := by
      unfold results
      congr 2
    rw [h5, hr, Array.mapM_eq_mapM_toList]
    simp [h2]
  have h4 : RV ok w (outOf vs) (if hh : us.toArray.size = 1 then us.toArray[0] else .tuple us.toArray) := by
    match vs, us, h1, hlen with
    | [v], us, ⟨u, r, e1, e2, e3⟩, _ =>
      obtain rfl := (show r = [] from e3)
      subst e1
      exact RV.of0 e2
    | [], us, h1, _ =>
      obtain rfl := (show us = [] from h1)
      exact ⟨[], rfl, rfl⟩
    | v1 :: v2 :: vs, us, h1, hlen =>
      have : ¬ us.toArray.size = 1 := by simp [hlen]
      rw [dif_neg this]
      exact ⟨us, rfl, h1⟩
  rcases hx with rfl | rfl <;> exact ⟨ha.defers, _, h3, _, m', ok, _, hK, rfl, h4, hS.less hm⟩

/-! ### Calls -/
theorem al_calls {op : Op} {f : FuncId} {args : List AV} {m1 fr : List Piece} {K : AV → List Piece → Prop} {dst : Option Nat} (hc : Spec P s.gl f args m1 K) (hp : m.Perm (m1 ++ fr))
    (hrun : ∀ ok w a, Sat N ok w e a → ∃ cs, RVs ok w args cs ∧ (execOp a.eval ⟨dst, op, ty, pos, af, none⟩).run P w = .ok (.enter f cs.toArray) w)
    (h : ∀ v m1', K v m1' → ∀ ok w a u, RV ok w v u → St s ok (m1' ++ fr) w → Sat N ok w e a → wpList P ops Q rest (a.put dst u) w) : AL P N ops Q s (⟨dst, op, ty, pos, af, none⟩ :: rest) e m := AL.mk fun ok w a hS ha =>
  wpList_plain rfl fun K' hK => by
    obtain ⟨cs, h1, h2⟩ := hrun ok w a ha
    unfold Oper.wp
    rw [h2]
    have hS' := hS.perm hp.symm
    exact Calls.mono (hc.run ok w cs hS'.lend h1) fun x w' hx => by
      obtain ⟨v, m', ok', cv, g1, rfl, g2, g3⟩ := hx
      exact hK _ _ (h v m' g1 ok' w' a cv g2 (hS'.back g3) (ha.stp g3.stp))
theorem enter_run {f : FuncId} [hf : FnB P f] {xs : List Operand} {ts : Array TypeId} {args : List AV} {dst : Option Nat} (hx : evs e xs = some args) (hn : args.all noTup = true) : ∀ ok w a, Sat N ok w e a → ∃ cs, RVs ok w args cs ∧ (execOp a.eval ⟨dst, .call ⟨.value (.func f), xs.toArray, ts⟩, ty, pos, af, none⟩).run P w = .ok (.enter f cs.toArray) w := fun ok w a ha => by
  refine ⟨_, ha.evals hx hn, ?_⟩
  have hev : a.eval (.func f) = .func (.func f) #[] #[] := rfl
  simp [execOp, resolve, hev, Deferred.ofValue, invoke, hf.run]
/-- a call, of whatever contract; the pieces that are handed over come first -/
theorem al_callK {f : FuncId} [hf : FnB P f] {xs : List Operand} {ts : Array TypeId} {args : List AV} (m1 fr : List Piece) {K : AV → List Piece → Prop} (hc : Spec P s.gl f args m1 K) (h : ∀ v m1', K v m1' → AL P N ops Q s rest ((d, v) :: e) (m1' ++ fr))
    (hp : m.Perm (m1 ++ fr)) (hx : evs e xs = some args := by exact rfl) (hn : args.all noTup = true := by exact rfl) (hd : Nat.blt d N = true := by exact rfl) : AL P N ops Q s (⟨some d, .call ⟨.value (.func f), xs.toArray, ts⟩, ty, pos, af, none⟩ :: rest) e m :=
  al_calls hc hp (enter_run hx hn) fun v m1' g ok w _a _u g2 g3 g4 => (h v m1' g).run ok w _ g3 (g4.put g2 hd)
/-- .. that has no result -/
theorem al_callS {f : FuncId} [hf : FnB P f] {xs : List Operand} {ts : Array TypeId} {args : List AV} (m1 fr : List Piece) {K : AV → List Piece → Prop} (hc : Spec P s.gl f args m1 K) (h : ∀ v m1', K v m1' → AL P N ops Q s rest e (m1' ++ fr))
    (hp : m.Perm (m1 ++ fr)) (hx : evs e xs = some args := by exact rfl) (hn : args.all noTup = true := by exact rfl) : AL P N ops Q s (⟨none, .call ⟨.value (.func f), xs.toArray, ts⟩, ty, pos, af, none⟩ :: rest) e m :=
  al_calls hc hp (enter_run hx hn) fun v m1' g ok w _a _u _ g3 g4 => (h v m1' g).run ok w _ g3 g4
/-- a call of a function that only answers: what it owes, what it answers -/
class Ans (P : Program) (gl : List (Nat × AV)) (f : FuncId) (args : List AV) (pre : outParam Prop) (out : outParam AV) : Prop where
  spec : pre → SpecE P gl f args out
theorem al_callE {f : FuncId} [hf : FnB P f] {xs : List Operand} {ts : Array TypeId} {args : List AV} {pre : Prop} {out : AV} (h : AL P N ops Q s rest ((d, out) :: e) m) (hx : evs e xs = some args := by exact rfl) (hg : s.gl = gl := by assumption) (hc : Ans P gl f args pre out := by infer_instance)
    (hp : pre := by first | exact True.intro | assumption | omega | (simp only [List.length_take, List.length_drop]; omega) | (simp only [true_and, and_true]; omega) | (simp; done) | (simp; omega)) (hn : args.all noTup = true := by exact rfl) (hd : Nat.blt d N = true := by exact rfl) : AL P N ops Q s (⟨some d, .call ⟨.value (.func f), xs.toArray, ts⟩, ty, pos, af, none⟩ :: rest) e m :=
  al_callK (K := fun v m' => v = out ∧ m' = []) [] m (by rw [hg]; exact hc.spec hp) (fun v m1' hh => by obtain ⟨h1, h2⟩ := hh; subst h1 h2; exact h) (List.Perm.refl _) hx hn hd
theorem al_callP {f : FuncId} [hf : FnB P f] {xs : List Operand} {ts : Array TypeId} {args : List AV} {pre : Prop} {out : AV} (hp : pre) (h : AL P N ops Q s rest ((d, out) :: e) m) (hx : evs e xs = some args := by exact rfl) (hg : s.gl = gl := by assumption) (hc : Ans P gl f args pre out := by infer_instance)
    (hn : args.all noTup = true := by exact rfl) (hd : Nat.blt d N = true := by exact rfl) : AL P N ops Q s (⟨some d, .call ⟨.value (.func f), xs.toArray, ts⟩, ty, pos, af, none⟩ :: rest) e m := al_callE h hx hg hc hp hn hd
/-- a method on a variable of one's own -/
class AnsM (P : Program) (gl : List (Nat × AV)) (f : FuncId) (g : Nat) (args : List AV) (T : TypeId) (v : AV) (pre : outParam Prop) (out : outParam AV) (v' : outParam AV) : Prop where
  spec : pre → Spec P gl f (ptr g :: args) [.var g T v] fun u m' => u = out ∧ m' = [.var g T v']
theorem Upd.perm {m m' : List Piece} {p p' : Piece} (h : Upd m p p' m') : ∃ fr, m.Perm (p :: fr) ∧ m'.Perm (p' :: fr) := by
  obtain ⟨pre, post, rfl, rfl⟩ := h.parts
  exact ⟨pre ++ post, List.perm_middle, List.perm_middle⟩
theorem al_callM {f : FuncId} [hf : FnB P f] {xs : List Operand} {ts : Array TypeId} {g : Nat} {args : List AV} {T : TypeId} {v v' : AV} {pre : Prop} {out : AV} {m' : List Piece} (h : AL P N ops Q s rest ((d, out) :: e) m') (hx : evs e xs = some (ptr g :: args) := by exact rfl)
    (hu : Upd m (.var g T v) (.var g T v') m' := by (repeat (first | apply Av.Upd.here | apply Av.Upd.there))) (hg : s.gl = gl := by assumption) (hc : AnsM P gl f g args T v pre out v' := by infer_instance) (hp : pre := by first | exact True.intro | assumption | omega | (simp only [List.length_take, List.length_drop]; omega) | (simp only [true_and, and_true]; omega) | (simp; done) | (simp; omega)) (hn : args.all noTup = true := by exact rfl) (hd : Nat.blt d N = true := by exact rfl) : AL P N ops Q s (⟨some d, .call ⟨.value (.func f), xs.toArray, ts⟩, ty, pos, af, none⟩ :: rest) e m := by
  obtain ⟨fr, h1, h2⟩ := hu.perm
  refine al_callK (K := fun u m' => u = out ∧ m' = [.var g T v']) [.var g T v] fr (by rw [hg]; exact hc.spec hp) (fun u m1' hh => ?_) h1 hx (by simpa [noTup] using hn) hd
  obtain ⟨e1, e2⟩ := hh
  subst e1 e2
  exact al_st (fun ok w hS => hS.perm h2) h
theorem al_callMP {f : FuncId} [hf : FnB P f] {xs : List Operand} {ts : Array TypeId} {g : Nat} {args : List AV} {T : TypeId} {v v' : AV} {pre : Prop} {out : AV} {m' : List Piece} (hp : pre) (h : AL P N ops Q s rest ((d, out) :: e) m') (hx : evs e xs = some (ptr g :: args) := by exact rfl)
    (hu : Upd m (.var g T v) (.var g T v') m' := by (repeat (first | apply Av.Upd.here | apply Av.Upd.there))) (hg : s.gl = gl := by assumption) (hc : AnsM P gl f g args T v pre out v' := by infer_instance) (hn : args.all noTup = true := by exact rfl) (hd : Nat.blt d N = true := by exact rfl) : AL P N ops Q s (⟨some d, .call ⟨.value (.func f), xs.toArray, ts⟩, ty, pos, af, none⟩ :: rest) e m := al_callM h hx hu hg hc hp hn hd
theorem al_callMS {f : FuncId} [hf : FnB P f] {xs : List Operand} {ts : Array TypeId} {g : Nat} {args : List AV} {T : TypeId} {v v' : AV} {pre : Prop} {out : AV} {m' : List Piece} (h : AL P N ops Q s rest e m') (hx : evs e xs = some (ptr g :: args) := by exact rfl)
    (hu : Upd m (.var g T v) (.var g T v') m' := by (repeat (first | apply Av.Upd.here | apply Av.Upd.there))) (hg : s.gl = gl := by assumption) (hc : AnsM P gl f g args T v pre out v' := by infer_instance) (hp : pre := by first | exact True.intro | assumption | omega | (simp only [List.length_take, List.length_drop]; omega) | (simp only [true_and, and_true]; omega) | (simp; done) | (simp; omega)) (hn : args.all noTup = true := by exact rfl) : AL P N ops Q s (⟨none, .call ⟨.value (.func f), xs.toArray, ts⟩, ty, pos, af, none⟩ :: rest) e m := by
  obtain ⟨fr, h1, h2⟩ := hu.perm
  refine al_callS (K := fun u m' => u = out ∧ m' = [.var g T v']) [.var g T v] fr (by rw [hg]; exact hc.spec hp) (fun u m1' hh => ?_) h1 hx (by simpa [noTup] using hn)
  obtain ⟨e1, e2⟩ := hh
  subst e1 e2
  exact al_st (fun ok w hS => hS.perm h2) h
/-- a function value -/
abbrev fnv (f : FuncId) (cs : List Value) : AV := .lit (.func (.func f) #[] cs.toArray)
theorem callV_run {f : FuncId} [hf : FnB P f] {x : Operand} {xs : List Operand} {ts : Array TypeId} {args : List AV} {cs : List Value} {dst : Option Nat} (h0 : ev e x = some (fnv f cs)) (hx : evs e xs = some args) (hn : args.all noTup = true) (hc : ∀ v ∈ cs, v.oneCell' = true) : ∀ ok w a, Sat N ok w e a → ∃ cs', RVs ok w (args ++ cs.map .lit) cs' ∧ (execOp a.eval ⟨dst, .call ⟨.value x, xs.toArray, ts⟩, ty, pos, af, none⟩).run P w = .ok (.enter f cs'.toArray) w := fun ok w a ha => by
  have happ : ∀ {as : List AV} {vs : List Value}, RVs ok w as vs → RVs ok w (as ++ cs.map .lit) (vs ++ cs) := by
    intro as
    induction as with
    | nil => intro vs h; obtain rfl := (show vs = [] from h); exact RVs.ofLits hc
    | cons b as ih =>
      rintro vs ⟨u, us, rfl, h2, h3⟩
      exact ⟨u, us ++ cs, rfl, h2, ih h3⟩
  refine ⟨_, happ (ha.evals hx hn), ?_⟩
  simp [execOp, resolve, ha.lit h0, Deferred.ofValue, invoke, hf.run]
theorem al_callV {f : FuncId} [hf : FnB P f] {x : Operand} {xs : List Operand} {ts : Array TypeId} {args : List AV} {cs : List Value} (m1 fr : List Piece) {K : AV → List Piece → Prop} (hc : Spec P s.gl f (args ++ cs.map .lit) m1 K) (h : ∀ v m1', K v m1' → AL P N ops Q s rest ((d, v) :: e) (m1' ++ fr)) (hp : m.Perm (m1 ++ fr))
    (h0 : ev e x = some (fnv f cs) := by exact rfl) (hx : evs e xs = some args := by exact rfl) (hn : args.all noTup = true := by exact rfl) (hcs : ∀ v ∈ cs, v.oneCell' = true := by simp [Value.oneCell']) (hd : Nat.blt d N = true := by exact rfl) : AL P N ops Q s (⟨some d, .call ⟨.value x, xs.toArray, ts⟩, ty, pos, af, none⟩ :: rest) e m :=
  al_calls hc hp (callV_run h0 hx hn hcs) fun v m1' g ok w _a _u g2 g3 g4 => (h v m1' g).run ok w _ g3 (g4.put g2 hd)
theorem al_callVS {f : FuncId} [hf : FnB P f] {x : Operand} {xs : List Operand} {ts : Array TypeId} {args : List AV} {cs : List Value} (m1 fr : List Piece) {K : AV → List Piece → Prop} (hc : Spec P s.gl f (args ++ cs.map .lit) m1 K) (h : ∀ v m1', K v m1' → AL P N ops Q s rest e (m1' ++ fr)) (hp : m.Perm (m1 ++ fr))
    (h0 : ev e x = some (fnv f cs) := by exact rfl) (hx : evs e xs = some args := by exact rfl) (hn : args.all noTup = true := by exact rfl) (hcs : ∀ v ∈ cs, v.oneCell' = true := by simp [Value.oneCell']) : AL P N ops Q s (⟨none, .call ⟨.value x, xs.toArray, ts⟩, ty, pos, af, none⟩ :: rest) e m :=
  al_calls hc hp (callV_run h0 hx hn hcs) fun v m1' g ok w _a _u _ g3 g4 => (h v m1' g).run ok w _ g3 g4
/-- .. that only answers -/
theorem al_callVE {f : FuncId} [hf : FnB P f] {x : Operand} {xs : List Operand} {ts : Array TypeId} {args all : List AV} {cs : List Value} {pre : Prop} {out : AV} (h : AL P N ops Q s rest ((d, out) :: e) m) (h0 : ev e x = some (fnv f cs) := by exact rfl) (hx : evs e xs = some args := by exact rfl) (hg : s.gl = gl := by assumption)
    (ha : args ++ cs.map .lit = all := by ((try simp only [List.map_cons, List.map_nil, List.cons_append, List.nil_append, List.append_nil]); exact rfl)) (hc : Ans P gl f all pre out := by infer_instance) (hp : pre := by first | exact True.intro | assumption | omega | (simp only [List.length_take, List.length_drop]; omega) | (simp only [true_and, and_true]; omega) | (simp; done) | (simp; omega)) (hn : args.all noTup = true := by exact rfl) (hcs : ∀ v ∈ cs, v.oneCell' = true := by simp [Go.Value.oneCell']) (hd : Nat.blt d N = true := by exact rfl) :
    AL P N ops Q s (⟨some d, .call ⟨.value x, xs.toArray, ts⟩, ty, pos, af, none⟩ :: rest) e m :=
  al_callV (K := fun v m' => v = out ∧ m' = []) [] m (by rw [hg, ha]; exact hc.spec hp) (fun v m1' hh => by obtain ⟨h1, h2⟩ := hh; subst h1 h2; exact h) (List.Perm.refl _) h0 hx hn hcs hd
/-- a closure is made -/
theorem al_makeFunc {f : FuncId} {cs : List Operand} {vs : List Value} (h : AL P N ops Q s rest ((d, fnv f vs) :: e) m) (hx : evs e cs = some (vs.map .lit) := by exact rfl) (_hn : vs.all (·.oneCell') = true := by exact rfl) (hd : Nat.blt d N = true := by exact rfl) : AL P N ops Q s (⟨some d, .makeFunc (.func f) #[] cs.toArray, ty, pos, af, none⟩ :: rest) e m :=
  al_lit rfl (fun ok w a ha => by
    have h1 := ha.evals hx (by simp [noTup])
    have h2 : ∀ {vs us : List Value}, RVs ok w (vs.map .lit) us → us = vs := by
      intro vs
      induction vs with
      | nil => intro us h; exact h
      | cons v vs ih =>
        rintro us ⟨u, us', rfl, h2, h3⟩
        rw [RV0.lit h2, ih h3]
    have h3 := h2 h1
    have h4 : Array.map a.eval cs.toArray = vs.toArray := by rw [← h3]; simp
    simp [execOp, Instr.makeFunc, h3]) hd h
end
attribute [irreducible] Spec
end Av

namespace Av
open Go Go.RowKit Tw
/-- some values are bytes -/
class Byts (xs : List AV) (l : outParam Bs) : Prop where
  out : ∀ ok w cs, RCs ok w xs cs → bytesL cs = some l
instance : Byts [] [] := ⟨fun ok w cs h => by rw [RCs] at h; subst h; rfl⟩
instance {n : Int} {xs : List AV} {l : Bs} [h : Byts xs l] : Byts (.lit (.int .u8 n) :: xs) (UInt8.ofNat n.toNat :: l) := ⟨fun ok w cs hc => by
  rw [RCs] at hc
  obtain ⟨c1, c2, rfl, h1, h2⟩ := hc
  rw [RC] at h1
  rw [h1.1]
  simp [bytesL, byteV, h.out ok w c2 h2]⟩
theorem bytesL_app : ∀ {a b : List Value} {l r : Bs}, bytesL a = some l → bytesL b = some r → bytesL (a ++ b) = some (l ++ r)
  | [], b, l, r, h, k => by simp [bytesL] at h; subst h; exact k
  | v :: a, b, l, r, h, k => by
    simp only [bytesL] at h
    cases hv : byteV v with
    | none => simp [hv] at h
    | some c =>
      cases ha : bytesL a with
      | none => simp [hv, ha] at h
      | some q =>
        simp [hv, ha] at h
        subst h
        rw [List.cons_append, bytesL, hv, bytesL_app ha k]
        rfl
instance {xs ys : List AV} {l r : Bs} [h : Byts xs l] [k : Byts ys r] : Byts (xs ++ ys) (l ++ r) := ⟨fun ok w cs hc => by
  obtain ⟨c, d, rfl, h1, h2⟩ := hc.split
  exact bytesL_app (h.out ok w c h1) (k.out ok w d h2)⟩
instance {l : Bs} : Byts (l.map fun c => .lit (u8v c)) l := ⟨fun ok w cs hc => by
  induction l generalizing cs with
  | nil => rw [List.map_nil, RCs] at hc; subst hc; rfl
  | cons c l ih =>
    rw [List.map_cons, RCs] at hc
    obtain ⟨c1, c2, rfl, h1, h2⟩ := hc
    rw [RC] at h1
    rw [h1.1, List.singleton_append, bytesL, ih c2 h2]
    simp [u8v, byteV]⟩
section
variable {P : Program} {N : Nat} {ops : Array Oper} {Q : Exit → Act → World → Prop} {rest : List Oper} {s : Base} {e : Env} {m : List Piece} {d : Nat} {ty : TypeId} {pos : String} {af : Array Edge}
theorem run_toStr {S D E : TypeId} {kS bS : Nat} {w : World} (tS : TyL P S E kS bS) (tE : TyI P E .u8) (tD : TyT P D) {a : Addr} {n c : Nat} {cs : List Value} {l : Bs} (hr : ∀ j v, cs[j]? = some v → w.cell? (a.add j) = some v) (hn : cs.length = n) (hl : bytesL cs = some l) :
    (convert S D (.slice (some a) n c)).run P w = .ok (sv l) w := by
  obtain ⟨ns, rfl, rfl⟩ := bytesL_spec hl
  have h1 := run_loadCells_list (P := P) w a _ hr
  rw [hn] at h1
  rw [run_convert_bytes_string w S D E _ n c tS.out tE.out tD.out, run_bytesToString w _ n c ns h1, foldl_push_bytes]
  simp [ByteArray.empty, ByteArray.emptyWithCapacity]
  rfl
/-- data's bytes as a text -/
theorem al_strD {S D E : TypeId} {kS bS : Nat} [tS : TyL P S E kS bS] [tE : TyI P E .u8] [tD : TyT P D] {x : Operand} {xs : List AV} {id : Option Value} {l : Bs} (h : AL P N ops Q s rest ((d, str l) :: e) m) (hx : ev e x = some (.sl 1 xs id) := by exact rfl) (hb : Byts xs l := by infer_instance) (hd : Nat.blt d N = true := by exact rfl) :
    AL P N ops Q s (⟨some d, .convert S D x, ty, pos, af, none⟩ :: rest) e m :=
  al_lit rfl (fun ok w A hA => by
    obtain ⟨a, c, g1, _, g3, g4, g5, _⟩ := sl_run (hA.eval hx)
    rcases Nat.eq_zero_or_pos xs.length with h0 | h0
    · have hxs : xs = [] := List.eq_nil_of_length_eq_zero h0
      subst hxs
      have hl := hb.out ok w [] (by rw [RCs])
      simp [bytesL] at hl
      subst hl
      cases a with
      | none =>
        have := run_convert_bytes_nil (P := P) w S E tS.out tE.out 0 c D tD.out
        simp only [List.length_nil] at g1
        simp [execOp, g1, this]
        rfl
      | some a =>
        have h1 : (loadCells a 0).run P w = .ok ([].map (Value.int .u8)).toArray w := by simpa using run_loadCells_list (P := P) w a [] (by simp)
        have h2 := run_bytesToString (P := P) w a 0 c [] h1
        have h3 := run_convert_bytes_string (P := P) w S D E (some a) 0 c tS.out tE.out tD.out
        simp only [List.length_nil] at g1
        simp [execOp, g1, h3, h2]
        rfl
    · obtain ⟨b, o, es, f1, f2, f3, f4⟩ := g5 h0
      subst f1
      have := run_toStr (P := P) (w := w) tS tE tD (a := ⟨b, o, none⟩) (n := xs.length) (c := c) (cs := es) (fun j v hj => by rw [add_mid]; exact (f3 j v hj).1) (by omega) (hb.out ok w es f4)
      simp [execOp, g1, this]) hd h
/-- the whole of an array variable as a slice -/
theorem al_sliceA {T E : TypeId} {n k : Nat} [t : TyA P T n E k] {x : Operand} {g o : Nat} (h : AL P N ops Q s rest ((d, .lit (.slice (some ⟨g, o, none⟩) n n)) :: e) m) (hx : ev e x = some (.lit (.pointer (some ⟨g, o, none⟩))) := by exact rfl) (hd : Nat.blt d N = true := by exact rfl) : AL P N ops Q s (⟨some d, .slice T x none none none, ty, pos, af, none⟩ :: rest) e m :=
  al_lit rfl (fun ok w B hB => by simp [execOp, hB.lit hx, Instr.sliceAt, Instr.sureAddr, run_underlying t.out, run_sizeOf t.sz, Instr.sliceBounds, Addr.add]) hd h
/-- .. its bytes as a text -/
theorem al_strA {S D E : TypeId} {kS bS : Nat} [tS : TyL P S E kS bS] [tE : TyI P E .u8] [tD : TyT P D] {x : Operand} {g n c : Nat} {T0 : TypeId} {k : Nat} {ps : List AV} {l : Bs} (h : AL P N ops Q s rest ((d, str l) :: e) m) (hx : ev e x = some (.lit (.slice (some ⟨g, 0, none⟩) n c)) := by exact rfl) (hm : Has m (.var g T0 (.agg k ps)) := by (repeat (first | exact Av.Has.here | apply Av.Has.there)))
    (hk : Nat.beq k n = true := by exact rfl) (hb : Byts ps l := by infer_instance) (hd : Nat.blt d N = true := by exact rfl) : AL P N ops Q s (⟨some d, .convert S D x, ty, pos, af, none⟩ :: rest) e m :=
  al_val (v := str l) (fun ok w A hS hA => by
    obtain ⟨cs, h1, h2⟩ := hS.at_ _ hm.mem
    rw [RC] at h2
    have hk := Nat.eq_of_beq_eq_true hk
    have := run_toStr (P := P) (w := w) tS tE tD (a := ⟨g, 0, none⟩) (n := n) (c := c) (cs := cs) (fun j v hj => by rw [add_mid, cell_of_row _ _ _ _ _ _ h1]; simpa using hj) (by rw [h2.1, hk]) (hb.out ok w cs h2.2)
    exact ⟨sv l, by simp [execOp, hA.lit hx, this], RVl rfl⟩) hd h
/-- a text's bytes: new data -/
theorem al_bytes {S D E : TypeId} {kS bS : Nat} [tS : TyT P S] [tD : TyL P D E kS bS] [tE : TyI P E .u8] {x : Operand} {l : Bs} (h : AL P N ops Q s rest ((d, .sl 1 (l.map fun c => .lit (u8v c)) none) :: e) m) (hx : ev e x = some (str l) := by exact rfl) (hl : l.length ≤ maxLen := by first | (simp [maxLen]; done) | (unfold maxLen; omega)) (hd : Nat.blt d N = true := by exact rfl) :
    AL P N ops Q s (⟨some d, .convert S D x, ty, pos, af, none⟩ :: rest) e m :=
  al_step (v := .sl 1 (l.map fun c => .lit (u8v c)) none) (fun ok w A hS hA => by
    have hr := Lib.run_convert_string_bytes (P := P) w S D E ⟨l.toArray⟩ tS.out tD.out tE.out
    rw [size_sv] at hr
    have hb := Lib.bytesWorld_at_new w E ⟨l.toArray⟩
    have he : Ext w (Lib.bytesWorld w E ⟨l.toArray⟩) := ⟨by
      unfold Lib.bytesWorld World.freeze
      split <;> rfl, by
      unfold Lib.bytesWorld World.freeze
      split <;> rfl, by
      unfold Lib.bytesWorld World.freeze
      split <;> rfl, by rw [Lib.bytesWorld_size]; omega, fun k hk => Lib.bytesWorld_at_old w E _ k hk⟩
    refine ⟨.slice (some ⟨w.heap.size, 0, none⟩) l.length (grownCap w l.length 0 E), _, ok, m, by simp [execOp, hA.lit hx, hr], ?_, hS.ext he, Ext.astp he ok, h⟩
    refine RV.sl (by simp) (by simp) (grownCap_ge w _ 0 E) (grownCap_le_maxLen w _ 0 E hl) (fun hp => ⟨w.heap.size, 0, l.map u8v, rfl, by simp, fun j v hj => ?_, ?_⟩) (fun x hx => by
      obtain ⟨c, _, rfl⟩ := List.mem_map.1 hx
      rfl)
    · have hlt : j < l.length := by have := (List.getElem?_eq_some_iff.1 hj).1; simpa using this
      rw [Nat.zero_add, cell_of_row _ _ _ _ _ _ hb]
      refine ⟨?_, hS.fresh _ _ (Nat.le_refl _)⟩
      unfold Lib.bytesCells
      rw [Array.getElem?_append_left (by simp; exact hlt)]
      simpa [u8v] using hj
    · have : ∀ l : Bs, RCs ok (Lib.bytesWorld w E ⟨l.toArray⟩) (l.map fun c => AV.lit (u8v c)) (l.map u8v) → True := fun _ _ => trivial
      have key : ∀ (ok : Ok) (w : World) (l : Bs), RCs ok w (l.map fun c => AV.lit (u8v c)) (l.map u8v) := by
        intro ok w l
        induction l with
        | nil => rw [List.map_nil, RCs]; rfl
        | cons c l ih =>
          rw [List.map_cons, RCs]
          exact ⟨[u8v c], l.map u8v, rfl, by rw [RC]; exact ⟨rfl, rfl⟩, ih⟩
      exact key _ _ l) hd
theorem St.newTail {ok : Ok} {w w' : World} {E : TypeId} {k n c : Nat} {cur : Array Value} {fr : Nat × Nat} (h : St s ok m w) (he : Ext w w') (hsz : w'.heap.size = w.heap.size + 1) (hb : w'.heap[w.heap.size]? = some (.cells cur E fr)) (hfr : fr.2 = 0 ∨ cur.size ≤ fr.1) (hnc : n ≤ c) (hcs : cur.size = c * k) (hcm : c ≤ maxLen) :
    ∃ ok', St s ok' (.tail E k (.slice (some ⟨w.heap.size, 0, none⟩) n c) :: m) w' ∧ Stp ok w ok' w' ∧ (∀ i, i < n * k → ok' w.heap.size i) := by
  obtain ⟨ok', h1, h2, h3⟩ := St.grownTail (pre := []) (post := m) (n := n) (h.full E k none 0) he hsz hb hfr hnc hcs hcm
  exact ⟨ok', h1, h2, h3⟩
/-- .. with the leave to append -/
theorem al_bytesT {S D E : TypeId} {kS bS : Nat} [tS : TyT P S] [tD : TyL P D E kS bS] [tE : TyI P E .u8] {x : Operand} {l : Bs} (h : ∀ v, AL P N ops Q s rest ((d, .sl 1 (l.map fun c => .lit (u8v c)) (some v)) :: e) (.tail E 1 v :: m)) (hx : ev e x = some (str l) := by exact rfl) (hl : l.length ≤ maxLen := by first | (simp [maxLen]; done) | (unfold maxLen; omega)) (hd : Nat.blt d N = true := by exact rfl) :
    AL P N ops Q s (⟨some d, .convert S D x, ty, pos, af, none⟩ :: rest) e m :=
  al_stepV (fun ok w A hS hA => by
    have hr := Lib.run_convert_string_bytes (P := P) w S D E ⟨l.toArray⟩ tS.out tD.out tE.out
    rw [size_sv] at hr
    have hb := Lib.bytesWorld_at_new w E ⟨l.toArray⟩
    have he : Ext w (Lib.bytesWorld w E ⟨l.toArray⟩) := ⟨by
      unfold Lib.bytesWorld World.freeze
      split <;> rfl, by
      unfold Lib.bytesWorld World.freeze
      split <;> rfl, by
      unfold Lib.bytesWorld World.freeze
      split <;> rfl, by rw [Lib.bytesWorld_size]; omega, fun k hk => Lib.bytesWorld_at_old w E _ k hk⟩
    have hge := grownCap_ge w l.length 0 E
    have hsz : (Lib.bytesCells w E ⟨l.toArray⟩).size = grownCap w l.length 0 E * 1 := by
      unfold Lib.bytesCells
      rw [size_sv]
      simp
      omega
    obtain ⟨ok', h1, h2, h3⟩ := hS.newTail (k := 1) (n := l.length) he (Lib.bytesWorld_size w E _) hb (.inr (Nat.le_refl _)) hge hsz (grownCap_le_maxLen w _ 0 E hl)
    refine ⟨.sl 1 (l.map fun c => .lit (u8v c)) (some (.slice (some ⟨w.heap.size, 0, none⟩) l.length (grownCap w l.length 0 E))), .slice (some ⟨w.heap.size, 0, none⟩) l.length (grownCap w l.length 0 E), _, ok', _, by simp [execOp, hA.lit hx, hr], ?_, h1, h2, h _⟩
    refine RV.sl (by simp) (by simp) hge (grownCap_le_maxLen w _ 0 E hl) (fun hp => ⟨w.heap.size, 0, l.map u8v, rfl, by simp, fun j v hj => ?_, ?_⟩) (fun x hx => by
      obtain ⟨c, _, rfl⟩ := List.mem_map.1 hx
      rfl)
    · have hlt : j < l.length := by have := (List.getElem?_eq_some_iff.1 hj).1; simpa using this
      rw [Nat.zero_add, cell_of_row _ _ _ _ _ _ hb]
      refine ⟨?_, h3 j (by omega)⟩
      unfold Lib.bytesCells
      rw [Array.getElem?_append_left (by simp; exact hlt)]
      simpa [u8v] using hj
    · have key : ∀ (ok : Ok) (w : World) (l : Bs), RCs ok w (l.map fun c => AV.lit (u8v c)) (l.map u8v) := by
        intro ok w l
        induction l with
        | nil => rw [List.map_nil, RCs]; rfl
        | cons c l ih =>
          rw [List.map_cons, RCs]
          exact ⟨[u8v c], l.map u8v, rfl, by rw [RC]; exact ⟨rfl, rfl⟩, ih⟩
      exact key _ _ l) hd
/-- a shift to the right by a constant -/
theorem al_shrC {T yT : TypeId} {k yk : IntKind} {x y : Operand} {a b : Int} {n : Nat} (h : AL P N ops Q s rest ((d, .lit (.int k (a / (2 ^ n : Nat)))) :: e) m) (hx : ev e x = some (.lit (.int k a)) := by exact rfl) (hy : ev e y = some (.lit (.int yk b)) := by exact rfl) (hb : b = Int.ofNat n := by exact rfl) (hn : Nat.ble n k.bits = true := by exact rfl) (hd : Nat.blt d N = true := by exact rfl) :
    AL P N ops Q s (⟨some d, .binOp .shr T x y yT, ty, pos, af, none⟩ :: rest) e m :=
  al_shift rfl hx hy (fun w => by
    subst hb
    have hn := Nat.le_of_ble_eq_true hn
    have h0 : ¬ ((Int.ofNat n : Int) < 0) := by simp
    have h1 : (0 : Int) ≤ ((2 ^ n : Nat) : Int) := Int.natCast_nonneg _
    have h2 : min n k.bits = n := by omega
    have e1 : Int.fdiv a (2 ^ n) = a / (2 ^ n : Nat) := by
      rw [show ((2 : Int) ^ n) = ((2 ^ n : Nat) : Int) by simp]
      exact Int.fdiv_eq_ediv_of_nonneg a h1
    simp only [Op.shift, Int.ofNat_eq_natCast, Int.toNat_natCast, h2, e1]
    rfl) (.inr rfl) hd h
/-- an element's place in an array -/
theorem al_idxA {T E : TypeId} {n k : Nat} [t : TyA P T n E k] {x ix : Operand} {kd : IntKind} {g o : Nat} {i : Int} (j : Nat) (h : AL P N ops Q s rest ((d, .lit (.pointer (some ⟨g, o + j * k, none⟩))) :: e) m) (hx : ev e x = some (.lit (.pointer (some ⟨g, o, none⟩))) := by exact rfl) (hi : ev e ix = some (.lit (.int kd i)) := by exact rfl) (hj : i = (j : Int) := by first | exact rfl | omega) (hlt : j < n := by omega) (hd : Nat.blt d N = true := by exact rfl) :
    AL P N ops Q s (⟨some d, .indexAddr T x ix, ty, pos, af, none⟩ :: rest) e m := by
  subst hj
  have hin : (0 : Int) ≤ (j : Int) ∧ (j : Int) < (n : Nat) := by omega
  exact al_lit rfl (fun ok w B hB => by
    simp only [execOp, hB.lit hx, hB.lit hi, Instr.indexAt, asIntOf, Instr.sureAddr, Sem.run_bind, Sem.run_pure, Result.andThen_ok, run_underlying t.out, hin, and_self, if_true, run_sizeOf t.sz, Int.toNat_natCast, add_mid]) hd h
/-- an element of an array's value -/
theorem al_index {T E : TypeId} {n k nn : Nat} [t : TyA P T n E k] {a : Bool} [tE : Ty P E a k] {x ix : Operand} {kd : IntKind} {i : Int} {ps : List AV} {u : AV} (j : Nat) (h : AL P N ops Q s rest ((d, u) :: e) m) (hj : i = (j : Int)) (hlt : j < n) (hu : ps[j]? = some u) (hk : ∀ p ∈ ps, p.size = k) (ha : u.isAgg = a) (hx : ev e x = some (.agg nn ps) := by exact rfl) (hi : ev e ix = some (.lit (.int kd i)) := by exact rfl) (hd : Nat.blt d N = true := by exact rfl) :
    AL P N ops Q s (⟨some d, .index T x ix, ty, pos, af, none⟩ :: rest) e m := by
  subst hj
  have hin : (0 : Int) ≤ (j : Int) ∧ (j : Int) < (n : Nat) := by omega
  exact al_val (fun ok w B _ hB => by
    obtain ⟨cs, h1, h2⟩ := agg_run (hB.eval hx)
    rw [RC] at h2
    obtain ⟨hlt', he⟩ := List.getElem?_eq_some_iff.1 hu
    obtain ⟨x', c, y, rfl, e2, e3, e4⟩ := h2.2.at_ hk hlt'
    rw [he] at e4
    have hr := run_part (P := P) (w := w) (x := x') (y := y) tE e4 e3 ha
    rw [e2] at hr
    exact ⟨_, by simp only [execOp, h1, hB.lit hi, Instr.index, asIntOf, Sem.run_bind, Sem.run_pure, Result.andThen_ok, run_underlying t.out, hin, and_self, if_true, run_sizeOf t.sz, Int.toNat_natCast, hr], RV.of0 (ha ▸ RV0.mk e4)⟩) hd h
end
end Av

namespace Av
open Go Go.RowKit Tw
abbrev w32A (x : W32) : AV := .lit (w32v x)
/-- all parts are of k cells -/
class Siz (ps : List AV) (k : outParam Nat) : Prop where
  out : ∀ p ∈ ps, p.size = k
instance {α : Type} {f : α → Value} {l : List α} : Siz (l.map fun x => .lit (f x)) 1 := ⟨fun p hp => by obtain ⟨a, _, rfl⟩ := List.mem_map.1 hp; rfl⟩
instance {v : Value} {l : List AV} [h : Siz l 1] : Siz (.lit v :: l) 1 := ⟨fun p hp => by
  rcases List.mem_cons.1 hp with rfl | hp
  · rfl
  · exact h.out p hp⟩
instance : Siz [] 1 := ⟨by simp⟩
instance {a b : List AV} {k : Nat} [h : Siz a k] [g : Siz b k] : Siz (a ++ b) k := ⟨fun p hp => (List.mem_append.1 hp).elim (h.out p) (g.out p)⟩
instance {a : List AV} {k i : Nat} [h : Siz a k] : Siz (a.take i) k := ⟨fun p hp => h.out p (List.mem_of_mem_take hp)⟩
instance {a : List AV} {k i : Nat} [h : Siz a k] : Siz (a.drop i) k := ⟨fun p hp => h.out p (List.mem_of_mem_drop hp)⟩
instance {n : Nat} {v : Value} : Siz (List.replicate n (.lit v)) 1 := ⟨fun p hp => by rw [(List.mem_replicate.1 hp).2]; rfl⟩
section
variable {P : Program} {N : Nat} {ops : Array Oper} {Q : Exit → Act → World → Prop} {rest : List Oper} {s : Base} {e : Env} {m : List Piece} {d : Nat} {ty : TypeId} {pos : String} {af : Array Edge}
theorem RCs.set {ok : Ok} {w : World} {k i : Nat} {as : List AV} {cs c : List Value} {u : AV} (h : RCs ok w as cs) (hk : ∀ a ∈ as, a.size = k) (hi : i < as.length) (hu : RC ok w u c) (_hc : u.size = k) : RCs ok w (as.set i u) (cs.take (i * k) ++ c ++ cs.drop (i * k + k)) := by
  have he : as = as.take i ++ (as[i] :: as.drop (i + 1)) := by
    rw [← List.drop_eq_getElem_cons hi, List.take_append_drop]
  rw [he] at h
  obtain ⟨x, dd, rfl, h1, h2⟩ := h.split
  rw [RCs] at h2
  obtain ⟨c0, y, rfl, h3, h4⟩ := h2
  have hx : x.length = i * k := by
    rw [h1.len (fun a ha => hk a (List.mem_of_mem_take ha))]
    simp [Nat.min_eq_left (Nat.le_of_lt hi)]
  have hc0 : c0.length = k := by rw [h3.len, hk _ (List.getElem_mem hi)]
  have e1 : (x ++ (c0 ++ y)).take (i * k) = x := by rw [← hx, List.take_left]
  have e2 : (x ++ (c0 ++ y)).drop (i * k + k) = y := by
    rw [← List.append_assoc, show i * k + k = (x ++ c0).length by simp [hx, hc0], List.drop_left]
  rw [e1, e2, List.set_eq_take_append_cons_drop, if_pos hi, List.append_assoc]
  exact h1.append (by rw [RCs]; exact ⟨c, y, rfl, hu, h4⟩)
theorem al_loadE {T : TypeId} {a : Bool} {k : Nat} [t : Ty P T a k] {x : Operand} {g j n : Nat} {T0 : TypeId} {ps : List AV} {u : AV} (hu : ps[j]? = some u) (h : AL P N ops Q s rest ((d, u) :: e) m) (hx : ev e x = some (.lit (.pointer (some ⟨g, 0 + j * k, none⟩))) := by exact rfl)
    (hm : Has m (.var g T0 (.agg n ps)) := by (repeat (first | exact Av.Has.here | apply Av.Has.there))) (hk : Siz ps k := by infer_instance) (ha : u.isAgg = a := by exact rfl) (hd : Nat.blt d N = true := by exact rfl) : AL P N ops Q s (⟨some d, .load T x, ty, pos, af, none⟩ :: rest) e m :=
  al_val (fun ok w A hS hA => by
    obtain ⟨cs, hb, hg⟩ := hS.at_ _ hm.mem
    rw [RC] at hg
    obtain ⟨hlt, he⟩ := List.getElem?_eq_some_iff.1 hu
    obtain ⟨x', c, y, e1, e2, e3, e4⟩ := hg.2.at_ hk.out hlt
    rw [he] at e4
    have hr := run_loadVar_es (P := P) t (b := g) (o := 0 + j * k) (fun i v hv => by rw [Nat.zero_add, ← e2]; exact var_cells hb e1 i v hv) e4 e3 ha
    exact ⟨_, by simp [execOp, hA.lit hx, Instr.loadAt, Instr.sureAddr] at hr ⊢; simp [hr], RV.of0 (ha ▸ RV0.mk e4)⟩) hd h
theorem al_storeE {T : TypeId} {a : Bool} {k : Nat} [t : Ty P T a k] {x y : Operand} {g j n : Nat} {T0 : TypeId} {ps : List AV} {u : AV} {m' : List Piece} (hj : j < ps.length) (h : AL P N ops Q s rest e m') (hx : ev e x = some (.lit (.pointer (some ⟨g, 0 + j * k, none⟩))) := by exact rfl)
    (hy : ev e y = some u := by exact rfl) (hu : Upd m (.var g T0 (.agg n ps)) (.var g T0 (.agg n (ps.set j u))) m' := by (repeat (first | apply Av.Upd.here | apply Av.Upd.there))) (hk : Siz ps k := by infer_instance) (hsz : Nat.beq u.size k = true := by exact rfl) (hn : noTup u = true := by exact rfl) :
    AL P N ops Q s (⟨none, .store T x y, ty, pos, af, none⟩ :: rest) e m :=
  al_skip (fun ok w A hS hA => by
    obtain ⟨pre, post, rfl, rfl⟩ := hu.parts
    obtain ⟨cs, hb, hg⟩ := hS.at_ (.var g T0 (.agg n ps)) (by simp)
    rw [RC] at hg
    have hv0 := (hA.eval hy).to0 (by rintro vs rfl; simp [noTup] at hn)
    have hsz := Nat.eq_of_beq_eq_true hsz
    have hlen : (A.eval y).cells.toList.length = k := by rw [hv0.1.len, hsz]
    have hz : (A.eval y).cells.size = k := by simpa using hlen
    have hset := hg.2.set hk.out hj hv0.1 hsz
    have hcl := hg.2.len hk.out
    have hle : j * k + k ≤ ps.length * k := by
      have := Nat.mul_le_mul_right k (show j + 1 ≤ ps.length from hj)
      rw [Nat.add_mul] at this
      omega
    have hrun := run_storeVar_at (P := P) t.sz (v := A.eval y) (o := j * k) hb hz (by simp; omega) (hv0.1.one)
    have hl2 : (cs.take (j * k) ++ (A.eval y).cells.toList ++ cs.drop (j * k + k)).length = cs.length := by
      simp at hlen ⊢
      omega
    obtain ⟨h1, h2⟩ := hS.writeVar (v' := .agg n (ps.set j u)) (cs' := cs.take (j * k) ++ (A.eval y).cells.toList ++ cs.drop (j * k + k)) (by rw [RC]; exact ⟨by rw [hl2]; exact hg.1, hset⟩) (fun cs2 hb2 => by
      rw [hb] at hb2
      injection hb2 with hb2
      injection hb2 with hb2
      have : cs = cs2 := by simpa using congrArg Array.toList hb2
      subst this
      exact hl2)
    simp only at hrun
    exact ⟨_, ok, by simp [execOp, hA.lit hx, Instr.storeAt, Instr.sureAddr, hrun], h1, h2⟩) h

/-! numbers of 32 bits -/
theorem al_bit32 {op : BinOp} {T yT : TypeId} {x y : Operand} {a b c : W32} (h : AL P N ops Q s rest ((d, w32A c) :: e) m) (hx : ev e x = some (w32A a) := by exact rfl) (hy : ev e y = some (w32A b) := by exact rfl) (hc : bit32 op a b = some c := by exact rfl) (hd : Nat.blt d N = true := by exact rfl) : AL P N ops Q s (⟨some d, .binOp op T x y yT, ty, pos, af, none⟩ :: rest) e m := by
  have hb : ∀ z : W32, IntKind.u32.wrap (z.toNat : Int) = (z.toNat : Int) := fun z => by
    rw [wrap_u32]; simp
  have key : ∀ w, (binOp op T (w32v a) (w32v b)).run P w = .ok (w32v c) w := fun w => by
    cases op <;> (first | (cases hc; done) | (injection hc with hc; subst hc; simp only [binOp, w32v, Op.intBits, ofInt_nat, ne_eq, not_true, if_false]; exact congrArg (fun n => Result.ok (Value.int IntKind.u32 n) w) (hb _)))
  exact al_lit rfl (fun ok w A hA => Av.run_bin hA hx hy (key w)) hd h
theorem al_add32 {T yT : TypeId} {x y : Operand} {a b : W32} (h : AL P N ops Q s rest ((d, w32A (a + b)) :: e) m) (hx : ev e x = some (w32A a) := by exact rfl) (hy : ev e y = some (w32A b) := by exact rfl) (hd : Nat.blt d N = true := by exact rfl) : AL P N ops Q s (⟨some d, .binOp .add T x y yT, ty, pos, af, none⟩ :: rest) e m := by
  have h1 : IntKind.u32.wrap ((a.toNat : Int) + (b.toNat : Int)) = ((a + b).toNat : Int) := by
    rw [← Int.natCast_add, wrap_u32, BitVec.ofNat_add]
    simp
  exact al_lit rfl (fun ok w A hA => Av.run_bin hA hx hy (by rw [run_arith rfl, h1]; rfl)) hd h
theorem al_shr32 {T yT : TypeId} {yk : IntKind} {x y : Operand} {a : W32} {b : Int} (n : Nat) (h : AL P N ops Q s rest ((d, w32A (a >>> n)) :: e) m) (hx : ev e x = some (w32A a) := by exact rfl) (hy : ev e y = some (.lit (.int yk b)) := by exact rfl) (hb : b = (n : Int) := by first | exact rfl | omega) (hn : n < 32 := by omega) (hd : Nat.blt d N = true := by exact rfl) : AL P N ops Q s (⟨some d, .binOp .shr T x y yT, ty, pos, af, none⟩ :: rest) e m := by
  have e1 : Int.fdiv (a.toNat : Int) (2 ^ n) = ((a >>> n).toNat : Int) := by
    rw [show ((2 : Int) ^ n) = ((2 ^ n : Nat) : Int) by simp, Int.fdiv_eq_ediv_of_nonneg _ (Int.natCast_nonneg _), BitVec.toNat_ushiftRight, Nat.shiftRight_eq_div_pow]
    simp
  exact al_shift rfl hx hy (fun w => by
    subst hb
    have h0 : ¬ ((n : Int) < 0) := by omega
    have h2 : min n IntKind.u32.bits = n := by show min n 32 = n; omega
    simp only [Op.shift, h0, if_false, Int.toNat_natCast, h2, e1]
    rfl) (.inr rfl) hd h
theorem al_shl32 {T yT : TypeId} {yk : IntKind} {x y : Operand} {a : W32} {b : Int} (n : Nat) (h : AL P N ops Q s rest ((d, w32A (a <<< n)) :: e) m) (hx : ev e x = some (w32A a) := by exact rfl) (hy : ev e y = some (.lit (.int yk b)) := by exact rfl) (hb : b = (n : Int) := by first | exact rfl | omega) (hn : n < 32 := by omega) (hd : Nat.blt d N = true := by exact rfl) : AL P N ops Q s (⟨some d, .binOp .shl T x y yT, ty, pos, af, none⟩ :: rest) e m := by
  have e1 : IntKind.u32.wrap ((a.toNat : Int) * 2 ^ n) = ((a <<< n).toNat : Int) := by
    rw [show (a.toNat : Int) * 2 ^ n = ((a.toNat * 2 ^ n : Nat) : Int) by simp, wrap_u32, BitVec.toNat_shiftLeft, Nat.shiftLeft_eq, BitVec.toNat_ofNat]
  exact al_shift rfl hx hy (fun w => by
    subst hb
    have h0 : ¬ ((n : Int) < 0) := by omega
    have h1 : min n IntKind.u32.bits = n := by show min n 32 = n; omega
    simp only [Op.shift, h0, if_false, Int.toNat_natCast, h1, e1]
    rfl) (.inl rfl) hd h
theorem al_conv32 {S D : TypeId} {a : Bool} {kz : Nat} [tS : Ty P S a kz] [t : TyI P D .u32] {x : Operand} {b : UInt8} (h : AL P N ops Q s rest ((d, w32A (b32 b)) :: e) m) (hx : ev e x = some (.lit (u8v b)) := by exact rfl) (hd : Nat.blt d N = true := by exact rfl) : AL P N ops Q s (⟨some d, .convert S D x, ty, pos, af, none⟩ :: rest) e m := by
  refine al_convI (k' := .u32) ?_ hx hd
  have : Value.int .u32 (IntKind.u32.wrap (b.toNat : Int)) = w32v (b32 b) := by rw [wrap_u32]; rfl
  rw [this]
  exact h
theorem run_not32 {P : Program} (a : W32) (w : World) : (Op.unary .xor (w32v a)).run P w = .ok (w32v (~~~ a)) w := by
  have hb : ∀ z : W32, IntKind.u32.wrap (z.toNat : Int) = (z.toNat : Int) := fun z => by
    rw [wrap_u32]; simp
  have hm : (if IntKind.u32.signed then (-1 : Int) else IntKind.u32.max) = ((BitVec.allOnes 32).toNat : Int) := by decide
  show (Op.intBits .xor .u32 (if IntKind.u32.signed then (-1 : Int) else IntKind.u32.max) (a.toNat : Int)).run P w = _
  rw [hm]
  have e : BitVec.allOnes 32 ^^^ a = ~~~ a := by rw [BitVec.allOnes_xor]
  rw [← e]
  simp only [w32v, Op.intBits, ofInt_nat]
  exact congrArg (fun n => Result.ok (Value.int IntKind.u32 n) w) (hb _)
theorem al_not32 {T : TypeId} {x : Operand} {a : W32} (h : AL P N ops Q s rest ((d, w32A (~~~ a)) :: e) m) (hx : ev e x = some (w32A a) := by exact rfl) (hd : Nat.blt d N = true := by exact rfl) : AL P N ops Q s (⟨some d, .unOp .xor T x, ty, pos, af, none⟩ :: rest) e m :=
  al_lit rfl (fun ok w A hA => by
    simp [execOp, hA.lit hx, run_not32]) hd h
end
end Av

namespace Av
open Go Go.RowKit Tw
section
variable {s : Base} {ok : Ok} {m : List Piece} {w w' : World}
/-- an own block is written: as a whole -/
theorem St.writeBlk {g : Nat} {p p' : Piece} {pre post : List Piece} {C : Array Value} (h : St s ok (pre ++ p :: post) w) (hb : p.blk = some g) (ho : ∀ b j, p.owns b j ↔ b = g) (hb' : p'.blk = some g) (ho' : ∀ b j, p'.owns b j → b = g) (hat : ∀ ok' w', Stp ok w ok' w' → w'.heap[g]? = (w.setRow g C).heap[g]? → p'.at_ ok' w') :
    St s ok (pre ++ p' :: post) (w.setRow g C) ∧ Stp ok w ok (w.setRow g C) := by
  have hpm : p ∈ pre ++ p :: post := by simp
  have hst : Stp ok w ok (w.setRow g C) := ⟨by simp, fun b j u h1 h2 => by
    have hne : b ≠ g := by
      rintro rfl
      exact h.own _ hpm b j ((ho _ _).2 rfl) h2
    exact ⟨(cell_block (setRow_other w g b _ hne)).trans h1, h2⟩⟩
  exact ⟨h.write (g := g) hb (.inl hb') hst (hat _ _ hst rfl) (fun b j hbj => h.own _ hpm b j ((ho _ _).2 (ho' b j hbj))) (by simp) rfl rfl rfl (fun b hne => setRow_other w g b _ hne) (fun _ _ _ => Iff.rfl), hst⟩
/-- an own row becomes data; what stands behind it stays one's own -/
theorem St.freeze {g : Nat} {E : TypeId} {k c n : Nat} {xs : List AV} {pre post : List Piece} (h : St s ok (pre ++ .buf g E k xs c :: post) w) (hn : n = xs.length) (hc : n ≤ c) :
    ∃ ok', St s ok' (pre ++ .tail E k (.slice (some ⟨g, 0, none⟩) n c) :: post) w ∧ Stp ok w ok' w ∧ RV ok' w (.sl k xs (some (.slice (some ⟨g, 0, none⟩) n c))) (.slice (some ⟨g, 0, none⟩) n c) := by
  subst hn
  have hpm : Piece.buf g E k xs c ∈ pre ++ .buf g E k xs c :: post := by simp
  obtain ⟨cs1, cs2, h1, h2, h3, h4, h5⟩ := h.at_ _ hpm
  have hl := h2.len h3
  have hst : Stp ok w (fun b j => ok b j ∨ (b = g ∧ j < xs.length * k)) w := ⟨Nat.le_refl _, fun b j u h1 h2 => ⟨h1, .inl h2⟩⟩
  refine ⟨_, h.write (g := g) (p' := .tail E k (.slice (some ⟨g, 0, none⟩) xs.length c)) rfl ?_ hst ?_ ?_ rfl rfl rfl rfl (fun _ _ => rfl) (fun b j hne => ⟨fun h => h.elim id (fun h => absurd h.1 hne), .inl⟩), hst, ?_⟩
  · by_cases hq : xs.length = c
    · right; simp [Piece.blk, tailBlk, hq]
    · left; simp [Piece.blk, tailBlk, beq_ff hq]
  · by_cases hq : xs.length = c
    · exact .inl ⟨_, _, by rw [hq]⟩
    · exact .inr ⟨g, xs.length, c, _, (0, 0), rfl, h1, by omega, h5, by simpa using h4, .inl rfl⟩
  · rintro b j ⟨a, n', c', he, hne, rfl, hi⟩ ho
    injection he with e1 e2 e3
    injection e1 with e1
    subst e1 e2 e3
    rcases ho with ho | ⟨_, ho⟩
    · exact h.own _ hpm g j rfl ho
    · omega
  · refine RV.sl rfl (fun v hv => by injection hv with hv; exact hv.symm) hc h5 (fun _ => ⟨g, 0, cs1, rfl, hl, fun j v hj => ?_, h2.stp hst⟩) h3
    have hj' : j < cs1.length := (List.getElem?_eq_some_iff.1 hj).1
    rw [Nat.zero_add, cell_of_row _ _ _ _ _ _ h1]
    refine ⟨?_, .inr ⟨rfl, by omega⟩⟩
    simp only [List.getElem?_toArray]
    rw [List.getElem?_append_left hj']
    exact hj
end
section
variable {P : Program} {N : Nat} {ops : Array Oper} {Q : Exit → Act → World → Prop} {rest : List Oper} {s : Base} {e : Env} {m : List Piece} {d : Nat} {ty : TypeId} {pos : String} {af : Array Edge}
theorem al_freeze {l : List Oper} {g n c : Nat} {E : TypeId} {k : Nat} {xs : List AV} {m' : List Piece} (t : Nat) (h : AL P N ops Q s l ((t, .sl k xs (some (.slice (some ⟨g, 0, none⟩) n c))) :: e) m') (hv : lk e t = some (.lit (.slice (some ⟨g, 0, none⟩) n c)) := by exact rfl)
    (hm : Upd m (.buf g E k xs c) (.tail E k (.slice (some ⟨g, 0, none⟩) n c)) m' := by (repeat (first | apply Av.Upd.here | apply Av.Upd.there))) (hn : n = xs.length := by first | exact rfl | (simp; done) | (simp; omega)) (hc : n ≤ c := by omega) : AL P N ops Q s l e m := AL.mk fun ok w a hS ha => by
  obtain ⟨pre, post, rfl, rfl⟩ := hm.parts
  obtain ⟨ok', h1, h2, h3⟩ := hS.freeze hn hc
  exact h.run ok' w a h1 ((ha.stp h2).also (by rw [RV.lit (ha.env t _ hv)]; exact h3))
theorem al_idxB {S E : TypeId} {k bS : Nat} [t : TyL P S E k bS] {x ix : Operand} {kd : IntKind} {i : Int} {g o n c : Nat} (j : Nat) (h : AL P N ops Q s rest ((d, .lit (.pointer (some ⟨g, o + j * k, none⟩))) :: e) m) (hx : ev e x = some (.lit (.slice (some ⟨g, o, none⟩) n c)) := by exact rfl) (hi : ev e ix = some (.lit (.int kd i)) := by exact rfl) (hj : i = (j : Int) := by first | exact rfl | omega) (hlt : j < n := by first | omega | (simp only [List.length_map]; omega)) (hd : Nat.blt d N = true := by exact rfl) :
    AL P N ops Q s (⟨some d, .indexAddr S x ix, ty, pos, af, none⟩ :: rest) e m := by
  subst hj
  have hin : (0 : Int) ≤ (j : Int) ∧ (j : Int) < (n : Nat) := by omega
  exact al_lit rfl (fun ok w B hB => by
    simp only [execOp, hB.lit hx, hB.lit hi, Instr.indexAt, asIntOf, Sem.run_bind, Sem.run_pure, Result.andThen_ok, run_underlying t.out, hin, and_self, if_true, run_sizeOf t.size, Int.toNat_natCast, add_mid]) hd h
/-- a slice of a slice's value -/
theorem al_sliceL {S E : TypeId} {k bS : Nat} [t : TyL P S E k bS] {x : Operand} {xl xh : Option Operand} {il ih : Int} {A : Option Addr} {n c : Nat} (lo hi : Nat) (h : AL P N ops Q s rest ((d, .lit (.slice (if c = lo then A else A.map (·.add (lo * k))) (hi - lo) (c - lo))) :: e) m)
    (hx : ev e x = some (.lit (.slice A n c)) := by exact rfl) (hl : bnd e 0 xl = some il := by exact rfl) (hh : bnd e n xh = some ih := by exact rfl) (h1 : il = (lo : Int) := by first | exact rfl | omega) (h2 : ih = (hi : Int) := by first | exact rfl | omega) (h3 : lo ≤ hi := by omega) (h4 : hi ≤ c := by omega) (hd : Nat.blt d N = true := by exact rfl) : AL P N ops Q s (⟨some d, .slice S x xl xh none, ty, pos, af, none⟩ :: rest) e m :=
  al_lit rfl (fun ok w B hB => by
    subst h1 h2
    have hb := run_bounds (P := P) (w := w) (sl := true) (bnd_spec hB hl) (bnd_spec hB hh) h3 h4
    simp only [execOp, hB.lit hx, Instr.sliceAt, Instr.slice, Sem.run_bind, run_underlying t.out, Result.andThen_ok, Option.map_none, hb, run_sizeOf t.size, Sem.run_pure]) hd h
/-- .. that is not empty behind -/
theorem al_sliceP {S E : TypeId} {k bS : Nat} [t : TyL P S E k bS] {x : Operand} {xl xh : Option Operand} {il ih : Int} {g o n c : Nat} (lo hi : Nat) (h : AL P N ops Q s rest ((d, .lit (.slice (some ⟨g, o + lo * k, none⟩) (hi - lo) (c - lo))) :: e) m)
    (hx : ev e x = some (.lit (.slice (some ⟨g, o, none⟩) n c)) := by exact rfl) (hl : bnd e 0 xl = some il := by exact rfl) (hh : bnd e n xh = some ih := by exact rfl) (h1 : il = (lo : Int) := by first | exact rfl | omega) (h2 : ih = (hi : Int) := by first | exact rfl | omega) (h3 : lo ≤ hi := by omega) (h4 : hi ≤ c := by omega) (h5 : lo < c := by omega) (hd : Nat.blt d N = true := by exact rfl) : AL P N ops Q s (⟨some d, .slice S x xl xh none, ty, pos, af, none⟩ :: rest) e m :=
  al_sliceL lo hi (by
    rw [if_neg (by omega)]
    simp only [Option.map_some, add_mid]
    exact h) hx hl hh h1 h2 h3 h4 hd
theorem al_sliceL3 {S E : TypeId} {k bS : Nat} [t : TyL P S E k bS] {x xh xm : Operand} {xl : Option Operand} {il ih im : Int} {kd kd' : IntKind} {A : Option Addr} {n c : Nat} (lo hi mx : Nat) (h : AL P N ops Q s rest ((d, .lit (.slice (if mx = lo then A else A.map (·.add (lo * k))) (hi - lo) (mx - lo))) :: e) m)
    (hx : ev e x = some (.lit (.slice A n c)) := by exact rfl) (hl : bnd e 0 xl = some il := by exact rfl) (hh : ev e xh = some (.lit (.int kd ih)) := by exact rfl) (hm : ev e xm = some (.lit (.int kd' im)) := by exact rfl) (h1 : il = (lo : Int) := by first | exact rfl | omega) (h2 : ih = (hi : Int) := by first | exact rfl | omega) (h5 : im = (mx : Int) := by first | exact rfl | omega) (h3 : lo ≤ hi := by omega) (h4 : hi ≤ mx := by omega) (h6 : mx ≤ c := by omega) (hd : Nat.blt d N = true := by exact rfl) : AL P N ops Q s (⟨some d, .slice S x xl (some xh) (some xm), ty, pos, af, none⟩ :: rest) e m :=
  al_lit rfl (fun ok w B hB => by
    subst h1 h2 h5
    have hb : (Instr.sliceBounds true n c (xl.map B.eval) (some (.int kd (hi : Int))) (some (.int kd' (mx : Int)))).run P w = .ok (lo, hi, mx) w := by
      rcases bnd_spec hB hl with ⟨e1, rfl⟩ | ⟨kd, e1⟩ <;> rw [e1] <;> simp [Instr.sliceBounds, Instr.sliceBound, asIntOf, h3, h4, h6]
    simp only [execOp, hB.lit hx, hB.lit hh, hB.lit hm, Instr.sliceAt, Instr.slice, Sem.run_bind, run_underlying t.out, Result.andThen_ok, Option.map_some, hb, run_sizeOf t.size, Sem.run_pure]) hd h
/-- the cap of a slice's value -/
theorem al_capL {T E : TypeId} {k b : Nat} [t : TyL P T E k b] {x : Operand} {A : Option Addr} {n c : Nat} (h : AL P N ops Q s rest ((d, int c) :: e) m) (hx : ev e x = some (.lit (.slice A n c)) := by exact rfl) (hd : Nat.blt d N = true := by exact rfl) : AL P N ops Q s (⟨some d, .call ⟨.builtin .cap, #[x], #[T]⟩, ty, pos, af, none⟩ :: rest) e m :=
  al_lit rfl (fun ok w B hB => by simp [execOp, resolve, invoke, builtin, hB.lit hx, Builtin.cap_, run_underlying t.out, goInt]) hd h
/-- an element, or a part of one -/
theorem al_loadB {T : TypeId} {a : Bool} {kk : Nat} [t : Ty P T a kk] {x : Operand} {g j off k c : Nat} {E : TypeId} {xs : List AV} {y u : AV} (hy : xs[j]? = some y) (h : AL P N ops Q s rest ((d, u) :: e) m) (hx : ev e x = some (.lit (.pointer (some ⟨g, 0 + j * k + off, none⟩))) := by exact rfl)
    (hm : Has m (.buf g E k xs c) := by (repeat (first | exact Av.Has.here | apply Av.Has.there))) (hv : getV a kk 8 y off = some u := by exact rfl) (hd : Nat.blt d N = true := by exact rfl) : AL P N ops Q s (⟨some d, .load T x, ty, pos, af, none⟩ :: rest) e m :=
  al_val (fun ok w A hS hA => by
    obtain ⟨cs1, cs2, h1, h2, h3, h4, h5⟩ := hS.at_ _ hm.mem
    obtain ⟨hlt, he⟩ := List.getElem?_eq_some_iff.1 hy
    obtain ⟨x', c', y', rfl, f2, f3, f4⟩ := h2.at_ h3 hlt
    rw [he] at f4
    obtain ⟨p, q, r, rfl, g2, g3, g4, g5⟩ := getV_spec hv f4
    have hr := run_loadVar_es (P := P) t (b := g) (o := 0 + j * k + off) (fun i v hv => by
      rw [Nat.zero_add, show j * k + off = (x' ++ p).length by simp [f2, g2]]
      exact var_cells (c := q) (y := r ++ y' ++ cs2) h1 (by simp) i v hv) g4 g3 g5
    rw [Nat.zero_add] at hr
    exact ⟨_, by simp [execOp, hA.lit hx, Instr.loadAt, Instr.sureAddr, hr], RV.of0 (g5 ▸ RV0.mk g4)⟩) hd h
theorem al_storeB {T : TypeId} {a : Bool} {kk : Nat} [t : Ty P T a kk] {x z : Operand} {g j off k c : Nat} {E : TypeId} {xs : List AV} {y y' u : AV} {m' : List Piece} (hy : xs[j]? = some y) (h : AL P N ops Q s rest e m') (hx : ev e x = some (.lit (.pointer (some ⟨g, 0 + j * k + off, none⟩))) := by exact rfl)
    (hz : ev e z = some u := by exact rfl) (hm : Upd m (.buf g E k xs c) (.buf g E k (xs.set j y') c) m' := by (repeat (first | apply Av.Upd.here | apply Av.Upd.there))) (hv : putV u 8 y off = some y' := by exact rfl) (hk : Nat.beq u.size kk = true := by exact rfl) (hn : noTup u = true := by exact rfl) : AL P N ops Q s (⟨none, .store T x z, ty, pos, af, none⟩ :: rest) e m :=
  al_skip (fun ok w A hS hA => by
    obtain ⟨pre, post, rfl, rfl⟩ := hm.parts
    obtain ⟨cs1, cs2, h1, h2, h3, h4, h5⟩ := hS.at_ (.buf g E k xs c) (by simp)
    obtain ⟨hlt, he⟩ := List.getElem?_eq_some_iff.1 hy
    have hv0 := (hA.eval hz).to0 (by rintro vs rfl; simp [noTup] at hn)
    obtain ⟨x', c', yy, e1, f2, f3, f4⟩ := h2.at_ h3 hlt
    rw [he] at f4
    obtain ⟨p, q, r, rfl, g2, g3, g4, g5, g6⟩ := putV_spec hv0.1 hv f4
    have hk := Nat.eq_of_beq_eq_true hk
    have hlen : (A.eval z).cells.toList.length = kk := by rw [hv0.1.len, hk]
    have hsz : (A.eval z).cells.size = kk := by simpa using hlen
    have hsy : y'.size = k := by rw [g5, ← he]; exact h3 _ (List.getElem_mem hlt)
    have hset := h2.set h3 hlt g4 hsy
    have hlk : (p ++ q ++ r).length = k := f3
    have hC : (cs1 ++ cs2).toArray.toList.take (0 + j * k + off) ++ (A.eval z).cells.toList ++ (cs1 ++ cs2).toArray.toList.drop (0 + j * k + off + kk) = (cs1.take (j * k) ++ (p ++ (A.eval z).cells.toList ++ r) ++ cs1.drop (j * k + k)) ++ cs2 := by
      have ex : cs1.take (j * k) = x' := by rw [e1, ← f2, List.append_assoc, List.take_left]
      have ey : cs1.drop (j * k + k) = yy := by rw [e1, ← f2, ← hlk, ← List.length_append, List.drop_left]
      have hq : q.length = kk := by rw [g3, hk]
      rw [ex, ey]
      simp only [e1]
      have e2 : x' ++ (p ++ q ++ r) ++ yy ++ cs2 = (x' ++ p) ++ (q ++ (r ++ yy ++ cs2)) := by simp
      rw [e2, show 0 + j * k + off = (x' ++ p).length by simp [f2, g2], List.take_left, ← hq, ← List.length_append, ← List.append_assoc (x' ++ p) q, List.drop_left]
      simp
    have hsz2 : 0 + j * k + off + kk ≤ (cs1 ++ cs2).toArray.size := by
      have : (p ++ q ++ r).length = k := hlk
      have e3 : cs1.length = x'.length + k + yy.length := by rw [e1]; simp only [List.length_append] at this ⊢; omega
      have hq : q.length = kk := by rw [g3, hk]
      simp only [List.length_append] at this
      simp
      omega
    have hrun := run_storeVar_at (P := P) t.sz (v := A.eval z) (o := 0 + j * k + off) h1 hsz hsz2 (hv0.1.one)
    rw [hC] at hrun
    obtain ⟨r1, r2⟩ := hS.writeBlk (g := g) (p' := .buf g E k (xs.set j y') c) (C := ((cs1.take (j * k) ++ (p ++ (A.eval z).cells.toList ++ r) ++ cs1.drop (j * k + k)) ++ cs2).toArray) rfl (fun _ _ => Iff.rfl) rfl (fun _ _ h => h) (fun ok' w' hst hh => by
      refine ⟨_, cs2, hh.trans (setRow_heap w g _ _ E (0, 0) h1), hset.stp hst, fun x hx => ?_, ?_, h5⟩
      · rcases List.mem_or_eq_of_mem_set hx with hx | rfl
        · exact h3 x hx
        · exact hsy
      · rw [← h4]
        have hl := hset.len (k := k) (fun x hx => by
          rcases List.mem_or_eq_of_mem_set hx with hx | rfl
          · exact h3 x hx
          · exact hsy)
        rw [hl, h2.len h3]
        simp)
    rw [Nat.zero_add] at hrun
    generalize ((cs1.take (j * k) ++ (p ++ (A.eval z).cells.toList ++ r) ++ cs1.drop (j * k + k)) ++ cs2).toArray = CC at hrun r1 r2
    exact ⟨_, ok, by simp [execOp, hA.lit hx, Instr.storeAt, Instr.sureAddr, hrun], r1, r2⟩) h
end
end Av

namespace Av
open Go Go.RowKit Tw
/-- some elements laid over others, from the jth on -/
def over {α : Type} (xs : List α) (j : Nat) (zs : List α) : List α := xs.take j ++ zs ++ xs.drop (j + zs.length)
section
variable {ok : Ok} {w : World}
theorem RCs.take {k j : Nat} {xs : List AV} {cs : List Value} (h : RCs ok w xs cs) (hk : ∀ x ∈ xs, x.size = k) (hj : j ≤ xs.length) : RCs ok w (xs.take j) (cs.take (j * k)) := by
  have he : xs = xs.take j ++ xs.drop j := (List.take_append_drop _ _).symm
  rw [he] at h
  obtain ⟨c, d, rfl, h1, _⟩ := h.split
  have hl := h1.len (k := k) (fun x hx => hk x (List.mem_of_mem_take hx))
  have : (xs.take j).length = j := by simp; omega
  rw [this] at hl
  rwa [← hl, List.take_left]
theorem RCs.drop {k j : Nat} {xs : List AV} {cs : List Value} (h : RCs ok w xs cs) (hk : ∀ x ∈ xs, x.size = k) (hj : j ≤ xs.length) : RCs ok w (xs.drop j) (cs.drop (j * k)) := by
  have he : xs = xs.take j ++ xs.drop j := (List.take_append_drop _ _).symm
  rw [he] at h
  obtain ⟨c, d, rfl, h1, h2⟩ := h.split
  have hl := h1.len (k := k) (fun x hx => hk x (List.mem_of_mem_take hx))
  have : (xs.take j).length = j := by simp; omega
  rw [this] at hl
  rwa [← hl, List.drop_left]
theorem over_cells {k j : Nat} {xs zs : List AV} {cs1 cs2 news : List Value} (h : RCs ok w xs cs1) (hz : RCs ok w zs news) (hk : ∀ x ∈ xs, x.size = k) (hkz : ∀ x ∈ zs, x.size = k) (hj : j ≤ xs.length) :
    ∃ c1 c2, (cs1 ++ cs2).take (j * k) ++ news ++ (cs1 ++ cs2).drop (j * k + news.length) = c1 ++ c2 ∧ RCs ok w (over xs j zs) c1 ∧ (j * k + news.length ≤ cs1.length + cs2.length → c1.length + c2.length = cs1.length + cs2.length) := by
  have hl := h.len hk
  have hlz := hz.len hkz
  have hjk : j * k ≤ cs1.length := by rw [hl]; exact Nat.mul_le_mul_right k hj
  have e1 : (cs1 ++ cs2).take (j * k) = cs1.take (j * k) := List.take_append_of_le_length hjk
  have hto := h.take hk hj
  have hlt : (cs1.take (j * k)).length = j * k := by simp; omega
  rcases Nat.lt_or_ge xs.length (j + zs.length) with hlt2 | hge
  · refine ⟨cs1.take (j * k) ++ news, (cs1 ++ cs2).drop (j * k + news.length), by rw [e1], ?_, fun hf => by simp only [List.length_append, List.length_drop, hlt]; omega⟩
    unfold over
    rw [List.drop_of_length_le (by omega), List.append_nil]
    exact hto.append hz
  · have hd := h.drop hk hge
    have hle : (j + zs.length) * k ≤ cs1.length := by rw [hl]; exact Nat.mul_le_mul_right k hge
    have e2 : (cs1 ++ cs2).drop (j * k + news.length) = cs1.drop ((j + zs.length) * k) ++ cs2 := by
      rw [hlz, ← Nat.add_mul]
      exact List.drop_append_of_le_length hle
    rw [Nat.add_mul] at hle
    refine ⟨cs1.take (j * k) ++ news ++ cs1.drop ((j + zs.length) * k), cs2, by rw [e1, e2]; simp, ?_, fun hf => by
      rw [Nat.add_mul] at *
      simp only [List.length_append, List.length_drop, hlt, hlz]
      omega⟩
    unfold over
    exact (hto.append hz).append hd
theorem over_size {k j : Nat} {xs zs : List AV} (hk : ∀ x ∈ xs, x.size = k) (hkz : ∀ x ∈ zs, x.size = k) : ∀ x ∈ over xs j zs, x.size = k := fun x hx => by
  unfold over at hx
  rcases List.mem_append.1 hx with hx | hx
  · rcases List.mem_append.1 hx with hx | hx
    · exact hk x (List.mem_of_mem_take hx)
    · exact hkz x hx
  · exact hk x (List.mem_of_mem_drop hx)
/-- the cells of a run of elements -/
theorem RCs.run {k a n : Nat} {xs : List AV} {cs : List Value} (h : RCs ok w xs cs) (hk : ∀ x ∈ xs, x.size = k) (hn : a + n ≤ xs.length) : RCs ok w ((xs.drop a).take n) ((cs.drop (a * k)).take (n * k)) :=
  (h.drop hk (by omega)).take (fun x hx => hk x (List.mem_of_mem_drop hx)) (by simp; omega)
end
section
variable {P : Program} {N : Nat} {ops : Array Oper} {Q : Exit → Act → World → Prop} {rest : List Oper} {s : Base} {e : Env} {m : List Piece} {d : Nat} {ty : TypeId} {pos : String} {af : Array Edge}
/-- cells are stored over an own row -/
theorem St.overB {ok : Ok} {w : World} {g : Nat} {E : TypeId} {k c j : Nat} {xs zs : List AV} {news : List Value} {pre post : List Piece} (hS : St s ok (pre ++ .buf g E k xs c :: post) w) (hz : RCs ok w zs news) (hkz : ∀ x ∈ zs, x.size = k) (hj : j ≤ xs.length) (hc : j + zs.length ≤ c) :
    ∃ w', (storeCells ⟨g, j * k, none⟩ news).run P w = .ok () w' ∧ St s ok (pre ++ .buf g E k (over xs j zs) c :: post) w' ∧ Stp ok w ok w' := by
  obtain ⟨cs1, cs2, h1, h2, h3, h4, h5⟩ := hS.at_ (.buf g E k xs c) (by simp)
  have hlz := hz.len hkz
  have hfit : j * k + news.length ≤ (cs1 ++ cs2).toArray.size := by
    have := Nat.mul_le_mul_right k hc
    rw [Nat.add_mul] at this
    simp
    omega
  have hrun := run_storeCells_at P g (j * k) E news 0 (cs1 ++ cs2).toArray w h1 (by simpa using hfit) (RCs.one hz)
  simp only [Nat.add_zero] at hrun
  obtain ⟨c1, c2, e1, e2, e3⟩ := over_cells (cs2 := cs2) h2 hz h3 hkz hj
  rw [e1] at hrun
  obtain ⟨r1, r2⟩ := hS.writeBlk (g := g) (p' := .buf g E k (over xs j zs) c) (C := (c1 ++ c2).toArray) rfl (fun _ _ => Iff.rfl) rfl (fun _ _ h => h) (fun ok' w' hst hh => ⟨c1, c2, hh.trans (setRow_heap w g _ _ E (0, 0) h1), e2.stp hst, over_size h3 hkz, by rw [e3 (by simpa using hfit), h4], h5⟩)
  exact ⟨_, hrun, r1, r2⟩
/-- a literal of no element, one's own -/
theorem al_build0B {T E : TypeId} {k b : Nat} [t : TyE P T E k b] (h : ∀ g, AL P N ops Q s rest ((d, .lit (.slice (some ⟨g, 0, none⟩) 0 0)) :: e) (.buf g E k [] 0 :: m)) (hd : Nat.blt d N = true := by exact rfl) :
    AL P N ops Q s (⟨some d, .buildSlice T 0 #[], ty, pos, af, none⟩ :: rest) e m :=
  al_stepV (fun ok w A hS hA => by
    have hE := Ext.alloc w (.cells #[] E)
    have hk : ∀ b j, b < w.heap.size → ((ok b j ∧ b ≠ w.heap.size) ↔ ok b j) := fun b j hb => ⟨fun h => h.1, fun h => ⟨h, by omega⟩⟩
    have hf : ∀ b j, (w.alloc (.cells #[] E)).heap.size ≤ b → (ok b j ∧ b ≠ w.heap.size) := fun b j hb => by
      have : w.heap.size + 1 ≤ b := by simpa using hb
      exact ⟨hS.fresh b j (by omega), by omega⟩
    obtain ⟨g1, g2⟩ := hS.grow (new := [.buf w.heap.size E k [] 0]) (ok' := fun b j => ok b j ∧ b ≠ w.heap.size) hE hk hf (fun p hp => by
      obtain rfl : p = _ := by simpa using hp
      exact ⟨[], [], heap_alloc_new w _, by rw [RCs], by simp, by simp, by simp [maxLen]⟩) (fun p hp g hg => by
      obtain rfl : p = _ := by simpa using hp
      injection hg with hg
      omega) (fun p hp b j hb => by
      obtain rfl : p = _ := by simpa using hp
      intro ho
      exact ho.2 hb) (by simp)
    refine ⟨_, .slice (some ⟨w.heap.size, 0, none⟩) 0 0, w.alloc (.cells #[] E), _, _, ?_, RVl rfl, g1, g2, h w.heap.size⟩
    simp [execOp, Instr.buildSlice, run_underlying t.l.out, run_sizeOf t.l.size, Instr.fill, newRow, newObj, Sem.run]
    have : (Array.map (fun _ => (default : Value)) (Array.range 0)) = #[] := by apply Array.ext'; simp
    rw [this]) hd
/-- a new block that is one's own -/
theorem St.newBuf {ok : Ok} {w w' : World} {E : TypeId} {k c : Nat} {xs : List AV} {cs1 cs2 : List Value} (h : St s ok m w) (he : Ext w w') (hsz : w'.heap.size = w.heap.size + 1) (hb : w'.heap[w.heap.size]? = some (.cells (cs1 ++ cs2).toArray E (0, 0))) (hx : RCs ok w xs cs1) (hk : ∀ x ∈ xs, x.size = k) (hl : cs1.length + cs2.length = c * k) (hc : c ≤ maxLen) :
    ∃ ok', St s ok' (.buf w.heap.size E k xs c :: m) w' ∧ Stp ok w ok' w' := by
  have hk' : ∀ b j, b < w.heap.size → ((ok b j ∧ b ≠ w.heap.size) ↔ ok b j) := fun b j hb => ⟨fun h => h.1, fun h => ⟨h, by omega⟩⟩
  have hf : ∀ b j, w'.heap.size ≤ b → (ok b j ∧ b ≠ w.heap.size) := fun b j hb => ⟨h.fresh b j (by omega), by omega⟩
  have t : Turn ok m w (fun b j => ok b j ∧ b ≠ w.heap.size) w' := Turn.ext hf he hk'
  exact ⟨_, h.grow (new := [.buf w.heap.size E k xs c]) he hk' hf (fun p hp => by
    obtain rfl : p = _ := by simpa using hp
    exact ⟨cs1, cs2, hb, hx.stp t.stp, hk, hl, hc⟩) (fun p hp g hg => by
    obtain rfl : p = _ := by simpa using hp
    injection hg with hg
    omega) (fun p hp b j hb => by
    obtain rfl : p = _ := by simpa using hp
    intro ho
    exact ho.2 hb) (by simp)⟩
/-- append of data onto an own row: the row may move -/
theorem al_appendB {T E : TypeId} {k b : Nat} [t : TyE P T E k b] {xo yo : Operand} {g n c : Nat} {xs ys : List AV} {id : Option Value} {M : Nat → Nat → List Piece} (h : ∀ g' c', n + ys.length ≤ c' → AL P N ops Q s rest ((d, .lit (.slice (some ⟨g', 0, none⟩) (n + ys.length) c')) :: e) (M g' c')) (hx : ev e xo = some (.lit (.slice (some ⟨g, 0, none⟩) n c)) := by exact rfl) (hy : ev e yo = some (.sl k ys id) := by exact rfl)
    (hm : ∀ g' c', Upd m (.buf g E k xs c) (.buf g' E k (xs ++ ys) c') (M g' c') := by intro g' c'; (repeat (first | apply Av.Upd.here | apply Av.Upd.there))) (hn : n = xs.length := by first | exact rfl | (simp; done) | (simp; omega)) (hnc : n ≤ c := by omega)
    (hb : (n + ys.length) * b ≤ 140737488355328 := by first | omega | (simp; done) | (simp; omega)) (hl : n + ys.length ≤ maxLen := by first | (simp [maxLen]; done) | (simp [maxLen]; omega)) (hd : Nat.blt d N = true := by exact rfl) :
    AL P N ops Q s (⟨some d, .call ⟨.builtin .append, #[xo, yo], #[T, T]⟩, ty, pos, af, none⟩ :: rest) e m := by
  subst hn
  refine al_stepV (fun ok w B hS hB => ?_) hd
  obtain ⟨A2, c2, f1, _, f3, f4, f5, f6⟩ := sl_run (hB.eval hy)
  obtain ⟨i, z, q1, q2, hzk, hik, hib⟩ := t.zero
  have hg1 := hB.lit hx
  have hsm : xs.length + ys.length ≤ 9223372036854775807 := by simpa [maxLen] using hl
  rcases Nat.eq_zero_or_pos ys.length with h0 | h0
  · have hys : ys = [] := List.eq_nil_of_length_eq_zero h0
    subst hys
    have hrun : (Builtin.append_ #[T, T] ty #[.slice (some ⟨g, 0, none⟩) xs.length c, .slice A2 0 c2]).run P w = .ok (.slice (some ⟨g, 0, none⟩) xs.length c) w := by
      cases A2 <;> simp [Builtin.append_, run_underlying t.l.out, Go.sizeOf, typeInfo, q1, Builtin.lenOf, Builtin.firstCells, hnc, storeCells, loadCells, loadCellsFrom]
    obtain ⟨pre, post, hm1, hm2⟩ := (hm g c).parts
    rw [List.append_nil] at hm2
    exact ⟨_, .slice (some ⟨g, 0, none⟩) xs.length c, w, ok, _, by simp [execOp, resolve, invoke, builtin, hg1, f1, hrun], RVl rfl, by rw [hm2, ← hm1]; exact hS, Stp.refl _ _, h g c hnc⟩
  · obtain ⟨b2, o2, es2, rfl, e2, e3, e4⟩ := f5 h0
    have hnew : ∀ j u, es2[j]? = some u → w.cell? ((⟨b2, o2, none⟩ : Addr).add j) = some u := fun j u hj => by rw [add_mid]; exact (e3 j u hj).1
    have hl2 : es2.length = ys.length * i.size := by rw [e2, hik]
    obtain ⟨pre, post, hm1, _⟩ := (hm g c).parts
    have hS0 := hS
    rw [hm1] at hS
    obtain ⟨cs1, cs2, a1, a2, a3, a4, a5⟩ := hS.at_ (.buf g E k xs c) (by simp)
    have hcl := a2.len a3
    by_cases hroom : xs.length + ys.length ≤ c
    · obtain ⟨pre', post', hm1', hm2'⟩ := (hm g c).parts
      rw [hm1'] at hS0
      obtain ⟨w', r1, r2, r3⟩ := St.overB (P := P) hS0 e4 f6 (Nat.le_refl _) hroom
      have ho : over xs xs.length ys = xs ++ ys := by
        unfold over
        rw [List.take_length, List.drop_of_length_le (by omega), List.append_nil]
      rw [ho] at r2
      refine ⟨_, .slice (some ⟨g, 0, none⟩) (xs.length + ys.length) c, w', ok, _, ?_, RVl rfl, by rw [hm2']; exact r2, r3, h g c hroom⟩
      have hf := run_firstCells_some (P := P) w i.size ys.length ⟨b2, o2, none⟩ ys.length c2 es2 hl2 hnew
      rw [hik] at hf
      have hr : (Builtin.append_ #[T, T] ty #[.slice (some ⟨g, 0, none⟩) xs.length c, .slice (some ⟨b2, o2, none⟩) ys.length c2]).run P w = .ok (.slice (some ⟨g, 0, none⟩) (xs.length + ys.length) c) w' := by
        simp [Builtin.append_, run_underlying t.l.out, Go.sizeOf, typeInfo, q1, Builtin.lenOf, hroom, hik, hf, add_mid, r1]
      simp [execOp, resolve, invoke, builtin, hg1, f1, hr]
    · have holds : ∀ j v, cs1[j]? = some v → w.cell? ((⟨g, 0, none⟩ : Addr).add j) = some v := fun j v hj => by
        rw [add_mid, cell_of_row _ _ _ _ _ _ a1]
        have hj' : j < cs1.length := (List.getElem?_eq_some_iff.1 hj).1
        simp only [Nat.zero_add, List.getElem?_toArray]
        rw [List.getElem?_append_left hj']
        exact hj
      have hr := run_append_grow (P := P) w T ty E i z t.l.out q1 q2 ⟨g, 0, none⟩ xs.length c cs1 (by rw [hik]; exact hcl) holds ⟨b2, o2, none⟩ ys.length c2 es2 hl2 hnew (by omega) (by omega) (by rw [hib]; exact growslice_fits (by omega) hb)
      have hge := grownCap_ge w (xs.length + ys.length) c E
      have hle := grownCap_le_maxLen w (xs.length + ys.length) c E hl
      generalize grownCap w (xs.length + ys.length) c E = c' at hr hge hle
      obtain ⟨pre', post', hm1', hm2'⟩ := (hm w.heap.size c').parts
      have hE : Ext w (w.drew.alloc (.cells (cs1.toArray ++ es2.toArray ++ Builtin.zeroCells z.cells (c' - (xs.length + ys.length))) E)) := Ext.trans' (Ext.drew w) (Ext.alloc w.drew _)
      have hblk : (w.drew.alloc (.cells (cs1.toArray ++ es2.toArray ++ Builtin.zeroCells z.cells (c' - (xs.length + ys.length))) E)).heap[w.heap.size]? = some (.cells ((cs1 ++ es2) ++ (Builtin.zeroCells z.cells (c' - (xs.length + ys.length))).toList).toArray E (0, 0)) := by
        rw [show ((cs1 ++ es2) ++ (Builtin.zeroCells z.cells (c' - (xs.length + ys.length))).toList).toArray = cs1.toArray ++ es2.toArray ++ Builtin.zeroCells z.cells (c' - (xs.length + ys.length)) by apply Array.ext'; simp]
        exact heap_alloc_new w.drew _
      rw [hm1'] at hS0
      have hd := hS0.less (m' := pre' ++ post') (by simp)
      obtain ⟨ok', r1, r2⟩ := St.newBuf hd hE (by simp) hblk (a2.append e4) (fun x hx => (List.mem_append.1 hx).elim (a3 x) (f6 x)) (c := c') (by
        simp only [List.length_append, Array.length_toList, size_zeroCells, hzk, hcl, e2, ← Nat.add_mul]
        congr 1
        omega) hle
      refine ⟨_, .slice (some ⟨w.heap.size, 0, none⟩) (xs.length + ys.length) c', _, ok', _, by simp [execOp, resolve, invoke, builtin, hg1, f1, hr], RVl rfl, by rw [hm2']; exact r1.perm List.perm_middle, r2, h _ _ hge⟩
/-- append of data onto nil -/
theorem al_appendN {T E : TypeId} {k b : Nat} [t : TyE P T E k b] {xo yo : Operand} {ys : List AV} {id : Option Value} (h : ∀ g' c', ys.length ≤ c' → AL P N ops Q s rest ((d, .lit (.slice (some ⟨g', 0, none⟩) ys.length c')) :: e) (.buf g' E k ys c' :: m)) (hx : ev e xo = some (.lit (.slice none 0 0)) := by exact rfl) (hy : ev e yo = some (.sl k ys id) := by exact rfl)
    (h0 : 0 < ys.length := by simp) (hb : ys.length * b ≤ 140737488355328 := by first | omega | (simp; done) | (simp; omega)) (hl : ys.length ≤ maxLen := by first | (simp [maxLen]; done) | (simp [maxLen]; omega)) (hd : Nat.blt d N = true := by exact rfl) :
    AL P N ops Q s (⟨some d, .call ⟨.builtin .append, #[xo, yo], #[T, T]⟩, ty, pos, af, none⟩ :: rest) e m := by
  refine al_stepV (fun ok w B hS hB => ?_) hd
  obtain ⟨A2, c2, f1, _, f3, f4, f5, f6⟩ := sl_run (hB.eval hy)
  obtain ⟨i, z, q1, q2, hzk, hik, hib⟩ := t.zero
  have hg1 := hB.lit hx
  obtain ⟨b2, o2, es2, rfl, e2, e3, e4⟩ := f5 h0
  have hnew : ∀ j u, es2[j]? = some u → w.cell? ((⟨b2, o2, none⟩ : Addr).add j) = some u := fun j u hj => by rw [add_mid]; exact (e3 j u hj).1
  have hr := run_append_nil (P := P) w T ty E i z t.l.out q1 q2 ⟨b2, o2, none⟩ ys.length c2 es2 (by rw [e2, hik]) hnew h0 (by simp only [maxLen] at hl; omega) (by rw [hib]; omega)
  have hge := grownCap_ge w ys.length 0 E
  have hle := grownCap_le_maxLen w ys.length 0 E hl
  generalize grownCap w ys.length 0 E = c' at hr hge hle
  have hE : Ext w (w.drew.alloc (.cells (es2.toArray ++ Builtin.zeroCells z.cells (c' - ys.length)) E)) := Ext.trans' (Ext.drew w) (Ext.alloc w.drew _)
  have hblk : (w.drew.alloc (.cells (es2.toArray ++ Builtin.zeroCells z.cells (c' - ys.length)) E)).heap[w.heap.size]? = some (.cells (es2 ++ (Builtin.zeroCells z.cells (c' - ys.length)).toList).toArray E (0, 0)) := by
    rw [show (es2 ++ (Builtin.zeroCells z.cells (c' - ys.length)).toList).toArray = es2.toArray ++ Builtin.zeroCells z.cells (c' - ys.length) by apply Array.ext'; simp]
    exact heap_alloc_new w.drew _
  obtain ⟨ok', r1, r2⟩ := St.newBuf hS hE (by simp) hblk e4 f6 (c := c') (by
    simp only [Array.length_toList, size_zeroCells, hzk, e2, ← Nat.add_mul]
    congr 1
    omega) hle
  exact ⟨_, .slice (some ⟨w.heap.size, 0, none⟩) ys.length c', _, ok', _, by simp [execOp, resolve, invoke, builtin, hg1, f1, hr], RVl rfl, r1, r2, h _ _ hge⟩
/-- copy of data over an own row -/
theorem al_copyD {T T2 E : TypeId} {k b : Nat} [t : TyE P T E k b] {xo yo : Operand} {g o j n cc c : Nat} {xs ys : List AV} {id : Option Value} {m' : List Piece} (h : AL P N ops Q s rest ((d, int ((min ys.length n : Nat) : Int)) :: e) m') (hx : ev e xo = some (.lit (.slice (some ⟨g, o, none⟩) n cc)) := by exact rfl) (hy : ev e yo = some (.sl k ys id) := by exact rfl)
    (ho : o = j * k := by first | exact rfl | simp) (hm : Upd m (.buf g E k xs c) (.buf g E k (over xs j (ys.take n)) c) m' := by (repeat (first | apply Av.Upd.here | apply Av.Upd.there))) (hj : j ≤ xs.length := by first | omega | (simp; done) | (simp; omega)) (hc : j + n ≤ c := by omega) (hd : Nat.blt d N = true := by exact rfl) :
    AL P N ops Q s (⟨some d, .call ⟨.builtin .copy, #[xo, yo], #[T, T2]⟩, ty, pos, af, none⟩ :: rest) e m := by
  refine al_step (v := int ((min ys.length n : Nat) : Int)) (fun ok w B hS hB => ?_) hd
  obtain ⟨A2, c2, f1, _, f3, f4, f5, f6⟩ := sl_run (hB.eval hy)
  obtain ⟨i, z, q1, q2, hzk, hik, hib⟩ := t.zero
  have hg1 := hB.lit hx
  subst ho
  obtain ⟨pre, post, rfl, rfl⟩ := hm.parts
  have key : ∃ news, RCs ok w (ys.take n) news ∧ (Builtin.firstCells k (Nat.min ys.length n) (.slice A2 ys.length c2)).run P w = .ok news.toArray w := by
    rcases Nat.eq_zero_or_pos ys.length with h0 | h0
    · have hys : ys = [] := List.eq_nil_of_length_eq_zero h0
      subst hys
      refine ⟨[], by simp [RCs], ?_⟩
      cases A2 <;> simp [Builtin.firstCells, loadCells, loadCellsFrom]
    · obtain ⟨b2, o2, es2, rfl, e2, e3, e4⟩ := f5 h0
      have hmin : Nat.min ys.length n ≤ ys.length := Nat.min_le_left _ _
      have ht : ys.take n = ys.take (Nat.min ys.length n) := by
        rcases Nat.le_total ys.length n with h | h
        · rw [List.take_of_length_le h, show Nat.min ys.length n = ys.length from Nat.min_eq_left h, List.take_length]
        · rw [show Nat.min ys.length n = n from Nat.min_eq_right h]
      have h1 := e4.take f6 hmin
      refine ⟨_, by rw [ht]; exact h1, ?_⟩
      refine run_firstCells_some (P := P) w k _ ⟨b2, o2, none⟩ ys.length c2 _ ?_ (fun q v hq => ?_)
      · simp only [List.length_take, e2]
        have := Nat.mul_le_mul_right k hmin
        omega
      · rw [add_mid]
        have hlt := (List.getElem?_eq_some_iff.1 hq).1
        rw [List.getElem?_take_of_lt (by simp at hlt; omega)] at hq
        exact (e3 q v hq).1
  obtain ⟨news, hn1, hn2⟩ := key
  obtain ⟨w', r1, r2, r3⟩ := St.overB (P := P) hS hn1 (fun x hx => f6 x (List.mem_of_mem_take hx)) hj (by simp; omega)
  refine ⟨.int .i64 (min ys.length n : Nat), w', ok, _, ?_, RVl rfl, r2, r3, h⟩
  simp only [execOp, resolve, invoke, builtin, hg1, f1, Builtin.copy_, List.map_toArray, List.map_cons, List.map_nil]
  simp [run_underlying t.l.out, Builtin.lenOf, run_sizeOf t.l.size]
  have hn2' := hn2
  try simp at hn2'
  rw [hn2']
  simp [r1, goInt]
  done
/-- copy of an own row over an own row (maybe the same) -/
theorem al_copyB {T T2 E : TypeId} {k b : Nat} [t : TyE P T E k b] {xo yo : Operand} {g g2 o o2 j j2 n n2 cc cc2 c c2 : Nat} {xs ys : List AV} {m' : List Piece} (h : AL P N ops Q s rest ((d, int ((min n2 n : Nat) : Int)) :: e) m') (hx : ev e xo = some (.lit (.slice (some ⟨g, o, none⟩) n cc)) := by exact rfl) (hy : ev e yo = some (.lit (.slice (some ⟨g2, o2, none⟩) n2 cc2)) := by exact rfl)
    (ho : o = j * k := by first | exact rfl | simp) (ho2 : o2 = j2 * k := by first | exact rfl | simp) (hm2 : Has m (.buf g2 E k ys c2) := by (repeat (first | exact Av.Has.here | apply Av.Has.there))) (hm : Upd m (.buf g E k xs c) (.buf g E k (over xs j ((ys.drop j2).take (min n2 n))) c) m' := by (repeat (first | apply Av.Upd.here | apply Av.Upd.there))) (hj : j ≤ xs.length := by first | omega | (simp; done) | (simp; omega)) (hc : j + n ≤ c := by omega) (hj2 : j2 + min n2 n ≤ ys.length := by first | omega | (simp; done) | (simp; omega)) (hd : Nat.blt d N = true := by exact rfl) :
    AL P N ops Q s (⟨some d, .call ⟨.builtin .copy, #[xo, yo], #[T, T2]⟩, ty, pos, af, none⟩ :: rest) e m := by
  refine al_step (v := int ((min n2 n : Nat) : Int)) (fun ok w B hS hB => ?_) hd
  have hg1 := hB.lit hx
  have hg2 := hB.lit hy
  subst ho ho2
  obtain ⟨cs1, cs2, a1, a2, a3, a4, a5⟩ := hS.at_ _ hm2.mem
  obtain ⟨pre, post, rfl, rfl⟩ := hm.parts
  have h1 := a2.run (a := j2) (n := min n2 n) a3 hj2
  have hcl := a2.len a3
  have hlen : ((cs1.drop (j2 * k)).take (min n2 n * k)).length = min n2 n * k := by
    have := Nat.mul_le_mul_right k hj2
    rw [Nat.add_mul] at this
    simp only [List.length_take, List.length_drop, hcl]
    omega
  have hf : (Builtin.firstCells k (Nat.min n2 n) (.slice (some ⟨g2, j2 * k, none⟩) n2 cc2)).run P w = .ok ((cs1.drop (j2 * k)).take (min n2 n * k)).toArray w := by
    refine run_firstCells_some (P := P) w k _ ⟨g2, j2 * k, none⟩ n2 cc2 _ (by rw [hlen]) (fun q v hq => ?_)
    rw [add_mid, cell_of_row _ _ _ _ _ _ a1]
    have hlt := (List.getElem?_eq_some_iff.1 hq).1
    rw [hlen] at hlt
    rw [List.getElem?_take_of_lt hlt, List.getElem?_drop] at hq
    have hq' := (List.getElem?_eq_some_iff.1 hq).1
    simp only [List.getElem?_toArray]
    rw [List.getElem?_append_left hq']
    exact hq
  obtain ⟨w', r1, r2, r3⟩ := St.overB (P := P) hS h1 (fun x hx => a3 x (List.mem_of_mem_drop (List.mem_of_mem_take hx))) hj (by simp; omega)
  refine ⟨.int .i64 (min n2 n : Nat), w', ok, _, ?_, RVl rfl, r2, r3, h⟩
  simp only [execOp, resolve, invoke, builtin, hg1, hg2, Builtin.copy_, List.map_toArray, List.map_cons, List.map_nil]
  simp [run_underlying t.l.out, Builtin.lenOf, run_sizeOf t.l.size]
  try simp at hf
  rw [hf]
  simp [r1, goInt]
  done
end
end Av

namespace Av
open Go Go.RowKit Tw
@[simp] theorem over_length {α : Type} (xs : List α) (j : Nat) (zs : List α) : (over xs j zs).length = min j xs.length + zs.length + (xs.length - (j + zs.length)) := by simp [over, Nat.add_assoc]
theorem zeroCells_list (z : Array Value) : ∀ n, (Builtin.zeroCells z n).toList = (List.replicate n z.toList).flatten
  | 0 => by simp [Builtin.zeroCells]
  | n + 1 => by
    have ih := zeroCells_list z n
    have h1 : ∀ m, (Builtin.zeroCells z m).toList = (List.range (m * z.size)).map fun i => z[i % z.size]! := fun m => by
      simp [Builtin.zeroCells, Array.toList_range]
    rw [h1] at ih
    rw [h1, Nat.add_mul, Nat.one_mul, List.range_add, List.map_append, ih, List.replicate_succ', List.flatten_append]
    congr 1
    simp only [List.map_map, List.flatten_cons, List.flatten_nil, List.append_nil]
    apply List.ext_getElem
    · simp
    · intro i h1 h2
      have hi : i < z.size := by simpa using h1
      simp [Nat.mod_eq_of_lt hi, hi]
theorem RCs.replicate {ok : Ok} {w : World} {z : AV} {c : List Value} (h : RC ok w z c) : ∀ n, RCs ok w (List.replicate n z) (List.replicate n c).flatten
  | 0 => by rw [List.replicate_zero, RCs]; rfl
  | n + 1 => by
    rw [List.replicate_succ, List.replicate_succ, List.flatten_cons, RCs]
    exact ⟨c, _, rfl, h, RCs.replicate h n⟩
theorem RC.size {ok : Ok} {w : World} {z : AV} {c : List Value} (h : RC ok w z c) : c.length = z.size := h.len
/-- a row's last elements forgotten -/
theorem St.trim {s : Base} {ok : Ok} {w : World} {g : Nat} {E : TypeId} {k c : Nat} {xs : List AV} {pre post : List Piece} (n : Nat) (h : St s ok (pre ++ .buf g E k xs c :: post) w) : St s ok (pre ++ .buf g E k (xs.take n) c :: post) w := by
  obtain ⟨cs1, cs2, h1, h2, h3, h4, h5⟩ := h.at_ (.buf g E k xs c) (by simp)
  have hpm : Piece.buf g E k xs c ∈ pre ++ .buf g E k xs c :: post := by simp
  refine h.write (g := g) rfl (.inl rfl) (Stp.refl _ _) ?_ (fun b j hb => h.own _ hpm b j hb) rfl rfl rfl rfl (fun _ _ => rfl) (fun _ _ _ => Iff.rfl)
  have he : xs = xs.take n ++ xs.drop n := (List.take_append_drop _ _).symm
  have h2' := h2
  rw [he] at h2'
  obtain ⟨a, b, rfl, g1, _⟩ := h2'.split
  exact ⟨a, b ++ cs2, by rw [h1]; simp, g1, fun x hx => h3 x (List.mem_of_mem_take hx), by rw [← h4]; simp; omega, h5⟩
/-- cells that hold one hold the other -/
def ImpC (a b : AV) : Prop := ∀ ok w cs, RC ok w a cs → RC ok w b cs
theorem ImpC.nil {k : Nat} : ImpC (.lit (.slice none 0 0)) (.sl k [] none) := fun ok w cs h => by
  rw [RC] at h
  rw [RC]
  exact ⟨none, 0, h.1, by simp, Nat.le_refl _, by simp [maxLen], by simp, by simp⟩
theorem ImpC.agg1 {n : Nat} {a b : AV} (h : ImpC a b) : ImpC (.agg n [a]) (.agg n [b]) := fun ok w cs hh => by
  rw [RC] at hh
  obtain ⟨h1, hh⟩ := hh
  rw [RCs] at hh
  obtain ⟨c1, c2, rfl, h2, h3⟩ := hh
  rw [RC]
  refine ⟨h1, ?_⟩
  rw [RCs]
  exact ⟨c1, c2, rfl, h ok w c1 h2, h3⟩
theorem Imp.ofC {n : Nat} {as bs : List AV} (h : ImpC (.agg n as) (.agg n bs)) : Imp (.agg n as) (.agg n bs) := fun ok w v hh => ⟨h ok w _ (show RV0 ok w (.agg n as) v from hh).1, (show RV0 ok w (.agg n as) v from hh).2⟩
theorem St.asVar {s : Base} {ok : Ok} {w : World} {g : Nat} {T : TypeId} {v v' : AV} {pre post : List Piece} (hi : ImpC v v') (h : St s ok (pre ++ .var g T v :: post) w) : St s ok (pre ++ .var g T v' :: post) w := by
  obtain ⟨cs, h1, h2⟩ := h.at_ (.var g T v) (by simp)
  have hpm : Piece.var g T v ∈ pre ++ .var g T v :: post := by simp
  exact h.write (g := g) rfl (.inl rfl) (Stp.refl _ _) ⟨cs, h1, hi _ _ _ h2⟩ (fun b j hb => h.own _ hpm b j hb) rfl rfl rfl rfl (fun _ _ => rfl) (fun _ _ _ => Iff.rfl)
section
variable {P : Program} {N : Nat} {ops : Array Oper} {Q : Exit → Act → World → Prop} {rest : List Oper} {s : Base} {e : Env} {m : List Piece} {d : Nat} {ty : TypeId} {pos : String} {af : Array Edge}
theorem al_trim {l : List Oper} {g c : Nat} {E : TypeId} {k : Nat} {xs : List AV} {m' : List Piece} (n : Nat) (h : AL P N ops Q s l e m') (hm : Upd m (.buf g E k xs c) (.buf g E k (xs.take n) c) m' := by (repeat (first | apply Av.Upd.here | apply Av.Upd.there))) : AL P N ops Q s l e m := AL.mk fun ok w a hS ha => by
  obtain ⟨pre, post, rfl, rfl⟩ := hm.parts
  exact h.run ok w a (hS.trim n) ha
theorem al_asV {l : List Oper} {g : Nat} {T : TypeId} {v v' : AV} {m' : List Piece} (hi : ImpC v v') (h : AL P N ops Q s l e m') (hm : Upd m (.var g T v) (.var g T v') m' := by (repeat (first | apply Av.Upd.here | apply Av.Upd.there))) : AL P N ops Q s l e m := AL.mk fun ok w a hS ha => by
  obtain ⟨pre, post, rfl, rfl⟩ := hm.parts
  exact h.run ok w a (hS.asVar hi) ha
theorem ac_asV {c : Code} {g : Nat} {T : TypeId} {v v' : AV} {m' : List Piece} (hi : ImpC v v') (h : AC P N c Q s e m') (hm : Upd m (.var g T v) (.var g T v') m' := by (repeat (first | apply Av.Upd.here | apply Av.Upd.there))) : AC P N c Q s e m := AC.mk fun ok w a hS ha => by
  obtain ⟨pre, post, rfl, rfl⟩ := hm.parts
  exact h.run ok w a (hS.asVar hi) ha
theorem ae_asV {x : Exit} {g : Nat} {T : TypeId} {v v' : AV} {m' : List Piece} (hi : ImpC v v') (h : AE N x Q s e m') (hm : Upd m (.var g T v) (.var g T v') m' := by (repeat (first | apply Av.Upd.here | apply Av.Upd.there))) : AE N x Q s e m := AE.mk fun ok w a hS ha => by
  obtain ⟨pre, post, rfl, rfl⟩ := hm.parts
  exact h.run ok w a (hS.asVar hi) ha
/-- append of new zeros behind an own row's first elements, where there is no room -/
theorem al_appendZ {T Tn E : TypeId} {k b : Nat} [t : TyE P T E k b] {kn : IntKind} [ti : TyI P Tn kn] {zv : AV} [tz : TyO P E zv] {xo ko : Operand} {g i c : Nat} {qi : Int} {xs : List AV} (q : Nat) (h : ∀ g' c', i + q ≤ c' → AL P N ops Q s rest ((d, .lit (.slice (some ⟨g', 0, none⟩) (i + q) c')) :: e) (.buf g' E k (xs.take i ++ List.replicate q zv) c' :: m))
    (hx : ev e xo = some (.lit (.slice (some ⟨g, 0, none⟩) i c)) := by exact rfl) (hk : ev e ko = some (int qi) := by exact rfl) (hq : qi = (q : Int) := by first | exact rfl | omega) (hm : Has m (.buf g E k xs c) := by (repeat (first | exact Av.Has.here | apply Av.Has.there))) (hi : i ≤ xs.length := by first | omega | (simp; done) | (simp; omega)) (hc : c < i + q := by omega) (h0 : 0 < q := by omega)
    (hb : (i + q) * b ≤ 140737488355328 := by first | omega | (simp; done) | (simp; omega)) (hl : i + q ≤ maxLen := by first | (simp [maxLen]; done) | (simp [maxLen]; omega)) (hd : Nat.blt d N = true := by exact rfl) :
    AL P N ops Q s (⟨some d, .call ⟨.builtin .append, #[xo, ko], #[T, Tn]⟩, ty, pos, af, none⟩ :: rest) e m := by
  subst hq
  refine al_stepV (fun ok w B hS hB => ?_) hd
  obtain ⟨iz, z, q1, q2, hzk, hik, hib⟩ := t.zero
  obtain ⟨cs1, cs2, a1, a2, a3, a4, a5⟩ := hS.at_ _ hm.mem
  have hcl := a2.len a3
  have h1 := a2.take a3 hi
  have hik' : i * k ≤ cs1.length := by rw [hcl]; exact Nat.mul_le_mul_right k hi
  have hl1 : (cs1.take (i * k)).length = i * k := by simp; omega
  have hkp : 0 < k := Nat.le_of_ble_eq_true t.k0
  have hzc : ∃ cz, cellsA 8 zv = some cz ∧ z.cells.toList = cz := by
    have e1 := tz.out
    have e2 := tz.is
    cases hz : cellsA 8 zv with
    | none => simp [hz] at e2
    | some cz =>
      simp [q1, q2, hz] at e1
      exact ⟨cz, rfl, e1.1⟩
  obtain ⟨cz, hz1, hz2⟩ := hzc
  have hf : (Builtin.firstCells iz.size i (.slice (some ⟨g, 0, none⟩) i c)).run P w.drew = .ok (cs1.take (i * k)).toArray w.drew := by
    refine run_firstCells_some (P := P) w.drew iz.size _ ⟨g, 0, none⟩ i c _ (by rw [hl1, hik]) (fun j v hj => ?_)
    rw [add_mid]
    show w.cell? _ = some v
    rw [cell_of_row _ _ _ _ _ _ a1]
    have hlt := (List.getElem?_eq_some_iff.1 hj).1
    rw [List.getElem?_take_of_lt (by omega)] at hj
    simp only [Nat.zero_add, List.getElem?_toArray]
    rw [List.getElem?_append_left (by omega)]
    exact hj
  have hsm : i + q ≤ 9223372036854775807 := by simpa [maxLen] using hl
  have hqb : q * b ≤ (i + q) * b := Nat.mul_le_mul_right b (by omega)
  have hr := Go.Lib.run_append_grow_zeros (P := P) w T Tn ty E iz z .i64 kn t.l.out ti.out q1 q2 (some ⟨g, 0, none⟩) i c _ hf q h0 (by omega) hc (by omega) (by rw [hib]; omega) (by rw [hib]; exact growslice_fits hc hb)
  have hge := grownCap_ge w (i + q) c E
  have hle := grownCap_le_maxLen w (i + q) c E hl
  generalize grownCap w (i + q) c E = c' at hr hge hle
  have hE : Ext w (w.drew.alloc (.cells ((cs1.take (i * k)).toArray ++ Builtin.zeroCells z.cells q ++ Builtin.zeroCells z.cells (c' - (i + q))) E)) := Ext.trans' (Ext.drew w) (Ext.alloc w.drew _)
  have hblk : (w.drew.alloc (.cells ((cs1.take (i * k)).toArray ++ Builtin.zeroCells z.cells q ++ Builtin.zeroCells z.cells (c' - (i + q))) E)).heap[w.heap.size]? = some (.cells ((cs1.take (i * k) ++ (List.replicate q cz).flatten) ++ (Builtin.zeroCells z.cells (c' - (i + q))).toList).toArray E (0, 0)) := by
    have e1 := zeroCells_list z.cells q
    rw [hz2] at e1
    rw [← e1, show ((cs1.take (i * k) ++ (Builtin.zeroCells z.cells q).toList) ++ (Builtin.zeroCells z.cells (c' - (i + q))).toList).toArray = (cs1.take (i * k)).toArray ++ Builtin.zeroCells z.cells q ++ Builtin.zeroCells z.cells (c' - (i + q)) by apply Array.ext'; simp]
    exact heap_alloc_new w.drew _
  have hzr := cellsA_spec (ok := ok) (w := w) hz1
  have hzs : zv.size = k := by rw [← hzr.len, ← hz2, ← hzk]; simp
  obtain ⟨ok', r1, r2⟩ := St.newBuf hS hE (by simp) hblk (h1.append (RCs.replicate hzr q)) (fun x hx => (List.mem_append.1 hx).elim (fun h => a3 x (List.mem_of_mem_take h)) (fun h => by rw [(List.mem_replicate.1 h).2]; exact hzs)) (c := c') (by
    have e2 : ((List.replicate q cz).flatten).length = q * k := by
      rw [← hz2, ← zeroCells_list]
      simp [hzk, size_zeroCells]
    simp only [List.length_append, hl1, e2, Array.length_toList, size_zeroCells, hzk, ← Nat.add_mul]
    congr 1
    omega) hle
  have hg1 := hB.lit hx
  have hg2 := hB.lit hk
  exact ⟨_, .slice (some ⟨w.heap.size, 0, none⟩) (i + q) c', _, ok', _, by simp [execOp, resolve, invoke, builtin, hg1, hg2, hr], RVl rfl, r1, r2, h _ _ hge⟩
/-- an own row's later elements appended onto its first ones, in place -/
theorem al_appendO {T E : TypeId} {k b : Nat} [t : TyE P T E k b] {xo yo : Operand} {g i c o2 j2 n2 cc2 : Nat} {xs : List AV} {m' : List Piece} (h : AL P N ops Q s rest ((d, .lit (.slice (some ⟨g, 0, none⟩) (i + n2) c)) :: e) m') (hx : ev e xo = some (.lit (.slice (some ⟨g, 0, none⟩) i c)) := by exact rfl)
    (hy : ev e yo = some (.lit (.slice (some ⟨g, o2, none⟩) n2 cc2)) := by exact rfl) (ho2 : o2 = j2 * k := by first | exact rfl | simp) (hm : Upd m (.buf g E k xs c) (.buf g E k (over xs i ((xs.drop j2).take n2)) c) m' := by (repeat (first | apply Av.Upd.here | apply Av.Upd.there))) (hi : i ≤ xs.length := by first | omega | (simp; done) | (simp; omega)) (hj2 : j2 + n2 ≤ xs.length := by first | omega | (simp; done) | (simp; omega)) (hc : i + n2 ≤ c := by omega) (hd : Nat.blt d N = true := by exact rfl) :
    AL P N ops Q s (⟨some d, .call ⟨.builtin .append, #[xo, yo], #[T, T]⟩, ty, pos, af, none⟩ :: rest) e m := by
  subst ho2
  refine al_step (v := .lit (.slice (some ⟨g, 0, none⟩) (i + n2) c)) (fun ok w B hS hB => ?_) hd
  have hg1 := hB.lit hx
  have hg2 := hB.lit hy
  obtain ⟨iz, z, q1, q2, hzk, hik, hib⟩ := t.zero
  obtain ⟨pre, post, rfl, rfl⟩ := hm.parts
  obtain ⟨cs1, cs2, a1, a2, a3, a4, a5⟩ := hS.at_ (.buf g E k xs c) (by simp)
  have h1 := a2.run (a := j2) (n := n2) a3 hj2
  have hcl := a2.len a3
  have hlen : ((cs1.drop (j2 * k)).take (n2 * k)).length = n2 * k := by
    have := Nat.mul_le_mul_right k hj2
    rw [Nat.add_mul] at this
    simp only [List.length_take, List.length_drop, hcl]
    omega
  have hf : (Builtin.firstCells iz.size n2 (.slice (some ⟨g, j2 * k, none⟩) n2 cc2)).run P w = .ok ((cs1.drop (j2 * k)).take (n2 * k)).toArray w := by
    refine run_firstCells_some (P := P) w iz.size _ ⟨g, j2 * k, none⟩ n2 cc2 _ (by rw [hlen, hik]) (fun q v hq => ?_)
    rw [add_mid, cell_of_row _ _ _ _ _ _ a1]
    have hlt := (List.getElem?_eq_some_iff.1 hq).1
    rw [hlen] at hlt
    rw [List.getElem?_take_of_lt hlt, List.getElem?_drop] at hq
    have hq' := (List.getElem?_eq_some_iff.1 hq).1
    simp only [List.getElem?_toArray]
    rw [List.getElem?_append_left hq']
    exact hq
  obtain ⟨w', r1, r2, r3⟩ := St.overB (P := P) hS h1 (fun x hx => a3 x (List.mem_of_mem_drop (List.mem_of_mem_take hx))) hi (by simp; omega)
  refine ⟨.slice (some ⟨g, 0, none⟩) (i + n2) c, w', ok, _, ?_, RVl rfl, r2, r3, h⟩
  have hr : (Builtin.append_ #[T, T] ty #[.slice (some ⟨g, 0, none⟩) i c, .slice (some ⟨g, j2 * k, none⟩) n2 cc2]).run P w = .ok (.slice (some ⟨g, 0, none⟩) (i + n2) c) w' := by
    rw [hik] at hf
    simp [Builtin.append_, run_underlying t.l.out, Go.sizeOf, typeInfo, q1, Builtin.lenOf, hc, hf, add_mid, hik, r1]
  simp [execOp, resolve, invoke, builtin, hg1, hg2, hr]
theorem al_none {op : Op} {m' : List Piece} (hrun : ∀ ok w a, St s ok m w → Sat N ok w e a → ∃ u w' ok', (execOp a.eval ⟨none, op, ty, pos, af, none⟩).run P w = .ok (.value u) w' ∧ St s ok' m' w' ∧ Stp ok w ok' w') (h : AL P N ops Q s rest e m') :
    AL P N ops Q s (⟨none, op, ty, pos, af, none⟩ :: rest) e m := AL.mk fun ok w a hS ha =>
  wpList_plain rfl fun K hK => by
    obtain ⟨u, w', ok', h1, h3, h4⟩ := hrun ok w a hS ha
    unfold Oper.wp
    rw [h1]
    exact hK _ _ (h.run _ _ _ h3 (ha.stp h4))
/-- zeros over an own row -/
theorem al_clear {T E : TypeId} {k b : Nat} [t : TyE P T E k b] {zv : AV} [tz : TyO P E zv] {xo : Operand} {g o j n cc c : Nat} {xs : List AV} {m' : List Piece} (h : AL P N ops Q s rest e m') (hx : ev e xo = some (.lit (.slice (some ⟨g, o, none⟩) n cc)) := by exact rfl)
    (ho : o = j * k := by first | exact rfl | simp) (hm : Upd m (.buf g E k xs c) (.buf g E k (over xs j (List.replicate n zv)) c) m' := by (repeat (first | apply Av.Upd.here | apply Av.Upd.there))) (hj : j ≤ xs.length := by first | omega | (simp; done) | (simp; omega)) (hc : j + n ≤ c := by omega) (h0 : 0 < n := by omega) :
    AL P N ops Q s (⟨none, .call ⟨.builtin .clear, #[xo], #[T]⟩, ty, pos, af, none⟩ :: rest) e m := by
  subst ho
  refine al_none (fun ok w B hS hB => ?_) h
  have hg1 := hB.lit hx
  obtain ⟨iz, z, q1, q2, hzk, hik, hib⟩ := t.zero
  obtain ⟨pre, post, rfl, rfl⟩ := hm.parts
  have hzc : ∃ cz, cellsA 8 zv = some cz ∧ z.cells.toList = cz := by
    have e1 := tz.out
    have e2 := tz.is
    cases hz : cellsA 8 zv with
    | none => simp [hz] at e2
    | some cz =>
      simp [q1, q2, hz] at e1
      exact ⟨cz, rfl, e1.1⟩
  obtain ⟨cz, hz1, hz2⟩ := hzc
  have hzr := cellsA_spec (ok := ok) (w := w) hz1
  have hzs : zv.size = k := by rw [← hzr.len, ← hz2, ← hzk]; simp
  obtain ⟨w', r1, r2, r3⟩ := St.overB (P := P) hS (RCs.replicate hzr n) (fun x hx => by rw [(List.mem_replicate.1 hx).2]; exact hzs) hj (by simpa using hc)
  refine ⟨.tuple #[], w', ok, ?_, r2, r3⟩
  have e1 := zeroCells_list z.cells n
  rw [hz2] at e1
  have hn : n ≠ 0 := by omega
  simp [execOp, resolve, invoke, builtin, hg1, Builtin.clear_, run_underlying t.l.out, zeroValue, typeInfo, q1, q2]
  rw [e1]
  simp [r1]
/-- a call of a function that the model stands in for -/
theorem al_ext {f : FuncId} {fn : Func} {en : Array Value → Sem Value} {xs : List Operand} {ts : Array TypeId} {args : List AV} {v : AV} (hf : P.funcs[f]? = some fn) (hn : (fn.name == "runtime.NumGoroutine") = false) (hb : fn.body.isNone = true) (hx : Extern.findNext fn = none) (he : Extern.find fn = some en)
    (ha : evs e xs = some args) (hnt : args.all noTup = true) (hd : Nat.blt d N = true) (hr : ∀ ok w cs, St s ok m w → RVs ok w args cs → ∃ u, (en cs.toArray).run P w = .ok u w ∧ RV ok w v u) (h : AL P N ops Q s rest ((d, v) :: e) m) : AL P N ops Q s (⟨some d, .call ⟨.value (.func f), xs.toArray, ts⟩, ty, pos, af, none⟩ :: rest) e m :=
  al_val (fun ok w a hS hA => by
    have hev : a.eval (.func f) = .func (.func f) #[] #[] := rfl
    obtain ⟨u, h1, h2⟩ := hr ok w _ hS (hA.evals ha hnt)
    have hc := run_callFunc_extern (P := P) hf hn hb hx he (xs.map a.eval).toArray w
    exact ⟨u, by simp [execOp, resolve, hev, Deferred.ofValue, invoke, hc, h1], h2⟩) hd h
/-- do two own rows overlap? no -/
theorem overlaps_run {s : Base} {ok : Ok} {m : List Piece} {w : World} {g o n cc c k g2 o2 n2 cc2 c2 : Nat} {E tS : TypeId} {b : Nat} {xs ys : List AV} {cs : List Value} [t : TyE P tS E k b] (tR : TypeId) (hS : St s ok m w) (hne : g ≠ g2) (hm : Piece.buf g E k xs c ∈ m) (hm2 : Piece.buf g2 E k ys c2 ∈ m) (hx : 0 < ys.length) (hv : RVs ok w [.lit (.slice (some ⟨g, o, none⟩) n cc), .lit (.slice (some ⟨g2, o2, none⟩) n2 cc2)] cs) :
    (Extern.SlicesOverlaps.overlaps #[tS, tS] #[tR] cs.toArray).run P w = .ok (.bool false) w := by
  obtain ⟨u1, us, rfl, h1, u2, us2, rfl, h2, rfl⟩ := hv
  obtain rfl := RV0.lit h1
  obtain rfl := RV0.lit h2
  obtain ⟨cs1, cs2, a1, a2, a3, a4, a5⟩ := hS.at_ _ hm
  obtain ⟨ds1, ds2, b1, b2, b3, b4, b5⟩ := hS.at_ _ hm2
  have hk : 0 < k := Nat.le_of_ble_eq_true t.k0
  have hsz : 0 < ds1.length := by rw [b2.len b3]; exact Nat.mul_pos hx hk
  exact Go.Lib.run_overlaps_apart w tS tR E t.l.out k (fun _ => run_sizeOf t.l.size) ⟨g, o, none⟩ ⟨g2, o2, none⟩ n cc n2 cc2 hne E E (cs1.length + cs2.length) (ds1.length + ds2.length) (by simp [World.shape?, a1]) (by simp [World.shape?, b1]) (by omega) (by simp [World.frozen?, a1]) (by simp [World.frozen?, a1])
/-- pieces in two places are two -/
theorem buf_ne {s : Base} {ok : Ok} {w : World} {pre mid post : List Piece} {g g2 : Nat} {E : TypeId} {k c c2 : Nat} {xs ys : List AV} (hS : St s ok (pre ++ .buf g E k xs c :: (mid ++ .buf g2 E k ys c2 :: post)) w) : g ≠ g2 := by
  have h := hS.dis
  rw [List.pairwise_append] at h
  have h1 := h.2.1
  rw [List.pairwise_cons] at h1
  have h2 := h1.1 (.buf g2 E k ys c2) (by simp) g rfl
  rintro rfl
  exact h2 rfl
/-- a slice's literal: an own row -/
theorem al_buildB {T E : TypeId} {k b : Nat} [t : TyE P T E k b] {n : Nat} {parts : List (Nat × Operand)} {vals : List AV} (h : ∀ g, AL P N ops Q s rest ((d, .lit (.slice (some ⟨g, 0, none⟩) n n)) :: e) (.buf g E k vals n :: m)) (hx : evs e (parts.map (·.2)) = some vals := by exact rfl)
    (hi : parts.map (·.1) = List.range n := by exact rfl) (hk : vals.all (fun v => Nat.beq v.size k) = true := by exact rfl) (hn : vals.all noTup = true := by exact rfl) (hs : Nat.ble (n * k) 65536 = true := by exact rfl) (hn0 : Nat.blt 0 n = true := by exact rfl) (hd : Nat.blt d N = true := by exact rfl) :
    AL P N ops Q s (⟨some d, .buildSlice T n parts.toArray, ty, pos, af, none⟩ :: rest) e m := by
  have hkv : ∀ v ∈ vals, v.size = k := fun z hz => Nat.eq_of_beq_eq_true (List.all_eq_true.1 hk z hz)
  have hkp : 0 < k := Nat.le_of_ble_eq_true t.k0
  have hnp : 0 < n := Nat.le_of_ble_eq_true hn0
  have hnk : n * k ≤ 65536 := Nat.le_of_ble_eq_true hs
  refine al_stepV (fun ok w A hS hA => ?_) hd
  obtain ⟨vs, hvs, hmap⟩ := hmap_of hA hx hn
  have hpv := PR.of_vs hvs
  have hlv := hpv.length
  have hsv := hpv.sizes hkv
  have hlen : vs.length = n := by
    have h1 : ((parts.map (·.2)).map A.eval).length = vs.length := by rw [hlv, (hA.evals hx hn).length.symm]
    have h2 : (parts.map (·.1)).length = n := by rw [hi]; simp
    simp at h1 h2
    omega
  obtain ⟨i, z, q1, q2, hzk, _, _⟩ := t.zero
  have hzr : (zeroValue E).run P w = .ok z w := by simp [zeroValue, typeInfo, q1, q2]
  subst hlen
  have hcells : ((Array.range (vs.length * k)).map (z.cells[· % z.cells.size]!)) = (fl (List.replicate vs.length (.agg z.cells))).toArray := by
    apply Array.ext'
    rw [fl_replicate z.cells (v := .agg z.cells) rfl, hzk]
    simp
  have hset := setP_full (z := .agg z.cells) vs [] (fun v hv => by rw [hsv v hv]; exact hzk)
  simp only [List.nil_append, List.length_nil] at hset
  have hfill := (fill_setP (place := fun i => some (i * k, k)) (by
    intro i u hiu
    obtain ⟨hil, hie⟩ := List.getElem?_eq_some_iff.1 hiu
    rw [List.getElem_replicate] at hie
    subst hie
    have hil' : i < vs.length := by simpa using hil
    rw [fl_length (k := k) (fun x hx => by
      have := List.mem_of_mem_take hx
      rw [List.mem_replicate] at this
      rw [this.2]
      exact hzk)]
    simp [Nat.min_eq_left (Nat.le_of_lt hil')]
    exact hzk.symm) hset).1
  have hE := Ext.alloc w (.cells (fl vs).toArray E)
  have hblk : (w.alloc (.cells (fl vs).toArray E)).heap[w.heap.size]? = some (.cells ((fl vs) ++ []).toArray E (0, 0)) := by rw [List.append_nil]; exact heap_alloc_new w _
  have hcl : (fl vs).length = vs.length * k := fl_length hsv
  obtain ⟨ok', r1, r2⟩ := St.newBuf hS hE (by simp) hblk (hpv.cells) hkv (c := vs.length) (by simp [hcl]) (by
    have : vs.length ≤ vs.length * k := Nat.le_mul_of_pos_right _ hkp
    simp only [maxLen]
    omega)
  refine ⟨_, .slice (some ⟨w.heap.size, 0, none⟩) vs.length vs.length, w.alloc (.cells (fl vs).toArray E), ok', _, ?_, RVl rfl, r1, r2, h _⟩
  have h0 : ¬ vs.length * k > 2 ^ 24 := by omega
  have h1 : ¬ vs.length * k = 0 := by
    have := Nat.mul_pos hnp hkp
    omega
  have hmap' : (Array.map (fun (x : Nat × Operand) => (x.fst, A.eval x.snd)) parts.toArray).toList = (List.range' 0 vs.length).zip vs := by rw [hmap, hi, List.range_eq_range']
  simp only [execOp, Instr.buildSlice, Sem.run_bind, run_underlying t.l.out, Result.andThen_ok, run_sizeOf t.l.size, h0, h1, if_false, Sem.run_pure, hzr]
  rw [hmap', hcells, hfill]
  simp [newRow, newObj, Sem.run]
end
end Av
