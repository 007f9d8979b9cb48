/- The engine: joins, texts onto own rows, numbers out of bytes. -/
import Derived.Lib.AppendStr
import Derived.Lib.UnsafeStr
import Derived.Lib.Builder
import Derived.Test.YtkijoddconipoaaGreatDoorP1
import Derived.Test.YtkijoddconipoaaGreatDoorP2
import Derived.Test.YtkijoddconipoaaGreatDoorP3
import Derived.Test.YtkijoddconipoaaGreatDoorP4
namespace Av
open Go Go.RowKit Tw
theorem ImpC.nilT {k : Nat} : ImpC (.lit (.slice none 0 0)) (.sl k [] (some (.slice none 0 0))) := fun ok w cs h => by
  rw [RC] at h
  rw [RC]
  exact ⟨none, 0, h.1, by simp, Nat.le_refl _, by simp [maxLen], by simp, by simp⟩
theorem upon_mono {P : Program} {o : Oper} {a : Act} {next next' : Act → World → Prop} {Q Q' : Exit → Act → World → Prop} {r : Result Go.Next} (hn : ∀ a w, next a w → next' a w) (hq : ∀ e a w, Q e a w → Q' e a w) (h : o.upon P a next Q r) : o.upon P a next' Q' r := by
  unfold Oper.upon at h ⊢
  split at h
  · exact hn _ _ h
  · exact hn _ _ h
  · exact hn _ _ h
  · refine Calls.mono h fun x w' hx => ?_
    cases x with
    | returned v => exact hn _ _ hx
    | panicked c => exact hq _ _ _ hx
    | outgrown => exact let ⟨a, w, h⟩ := hx; ⟨a, w, hq _ _ _ h⟩
  · exact Rows.mono h fun v w' hx => hn _ _ hx
  · exact hq _ _ _ h
  · exact h.elim
theorem wpList_mono {P : Program} {ops : Array Oper} {Q Q' : Exit → Act → World → Prop} (hq : ∀ e a w, Q e a w → Q' e a w) : ∀ (l : List Oper) (a : Act) (w : World), wpList P ops Q l a w → wpList P ops Q' l a w
  | [], a, w, h => hq _ _ _ h
  | o :: l, a, w, h => by
    unfold wpList at h ⊢
    split at h
    · rename_i hw
      rw [if_pos hw]
      rcases h with h | ⟨h1, a', w', h2⟩
      · exact .inl (upon_mono (fun a w => wpList_mono hq l a w) hq h)
      · exact .inr ⟨h1, a', w', hq _ _ _ h2⟩
    · rename_i hw
      rw [if_neg hw]
      exact wpList_mono hq l _ _ h
section
variable {P : Program} {N : Nat} {ops : Array Oper} {Q : Exit → Act → World → Prop} {l : List Oper} {s : Base} {e : Env} {m : List Piece}
theorem al_mid {c2 : Code} {Q1 : Exit → Act → World → Prop} {α : Type} (I : α → Env) (M : α → List Piece) (h1 : AL P N ops (Exit.then (fun a w => ∃ z ok, Sat N ok w (I z) a ∧ St s ok (M z) w) Q) s l e m) (h2 : ∀ z, AC P N c2 Q1 s (I z) (M z)) : AL P N ops (Exit.then (fun a w => c2.wp P Q1 a w) Q) s l e m := AL.mk fun ok w a hS ha =>
  wpList_mono (fun x a' w' hx => by cases x <;> first | (obtain ⟨z, ok', g1, g2⟩ := hx; exact (h2 z).run _ _ _ g2 g1) | exact hx) _ _ _ (h1.run ok w a hS ha)
/-- a join behind a block -/
theorem ac_midB {c c2 : Code} {id : Nat} {Q1 : Exit → Act → World → Prop} {α : Type} (I : α → Env) (M : α → List Piece) (h1 : AC P N c (Exit.inBlock id (Exit.then (fun a w => ∃ z ok, Sat N ok w (I z) a ∧ St s ok (M z) w) Q)) s e m) (h2 : ∀ z, AC P N c2 Q1 s (I z) (M z)) : AC P N c (Exit.inBlock id (Exit.then (fun a w => c2.wp P Q1 a w) Q)) s e m := AC.mk fun ok w a hS ha =>
  wp_mono (h1.run ok w a hS ha) fun x a' w' hx => by
    cases x with
    | normal => obtain ⟨z, ok', g1, g2⟩ := hx; exact (h2 z).run _ _ _ g2 g1
    | exit j =>
      by_cases hj : j = id
      · simp only [Exit.inBlock, hj, if_true] at hx ⊢
        obtain ⟨z, ok', g1, g2⟩ := hx
        exact (h2 z).run _ _ _ g2 g1
      · simp only [Exit.inBlock, hj, if_false] at hx ⊢
        exact hx
    | _ => exact hx
/-- a function's end, by a contract of whatever kind, its answer told otherwise, with pieces handed back -/
theorem reIKm {fn : Func} {K : AV → List Piece → Prop} {rs : List ResultVar} {vs : List AV} (out : AV) (m' : List Piece) (h : Imp (outOf vs) out) (hK : K out m') (hm : m'.Sublist m) (hr : fn.results = rs.toArray := by exact rfl) (hh : Ress P N s e m rs vs := by
    repeat (first | exact Av.ress_nil | (apply Av.ress_cons; (first | (apply Av.res_tmp; exact rfl; exact rfl) | (apply Av.res_cell; exact rfl; (repeat (first | exact Av.Has.here | apply Av.Has.there)); exact rfl))))) : AE N .ret (bodyPost P fn (Back s K)) s e m := AE.mk fun ok w a hS ha => by
  have h1 := (ae_ret (K := fun v m'' => v = outOf vs ∧ m'' = m') (m := m) hr hh (.inl rfl) ⟨rfl, rfl⟩ hm).run ok w a hS ha
  obtain ⟨d, cv, r, v, m'', ok', cv', ⟨rfl, rfl⟩, e1, hv, hS'⟩ := h1
  exact ⟨d, cv, r, out, m'', ok', cv', hK, e1, h _ _ _ hv, hS'⟩
end
end Av

namespace Av
open Go Go.RowKit Tw
abbrev bytA (l : Bs) : List AV := l.map fun c => .lit (u8v c)
theorem strCells_eq (l : Bs) : Lib.strCells ⟨l.toArray⟩ = l.map u8v := by simp [Lib.strCells, u8v]
theorem RCs_byt {ok : Ok} {w : World} (l : Bs) : RCs ok w (bytA l) (l.map u8v) := by
  induction l with
  | nil => rw [show bytA [] = [] from rfl, RCs]; rfl
  | cons c l ih =>
    rw [show bytA (c :: l) = .lit (u8v c) :: bytA l from rfl, RCs]
    exact ⟨[u8v c], l.map u8v, rfl, by rw [RC]; exact ⟨rfl, rfl⟩, ih⟩
theorem byt_sz (l : Bs) : ∀ x ∈ bytA l, x.size = 1 := by
  intro x hx
  obtain ⟨c, _, rfl⟩ := List.mem_map.1 hx
  rfl
theorem bytA_len (l : Bs) : (bytA l).length = l.length := List.length_map _
theorem ba_size (l : Bs) : (⟨l.toArray⟩ : ByteArray).size = l.length := by simp [ByteArray.size]
section
variable {P : Program} {N : Nat} {ops : Array Oper} {Q : Exit → Act → World → Prop} {rest : List Oper} {s : Base} {e : Env} {m : List Piece} {d : Nat} {ty : TypeId} {pos : String} {af : Array Edge}
/-- a text onto an own row of bytes -/
theorem al_appendBS {T U E : TypeId} [t : TyE P T E 1 1] [tu : TyT P U] {xo yo : Operand} {g n c : Nat} {l : Bs} {xs : List AV} {M : Nat → Nat → List Piece} (h : ∀ g' c', n + l.length ≤ c' → AL P N ops Q s rest ((d, .lit (.slice (some ⟨g', 0, none⟩) (n + l.length) c')) :: e) (M g' c')) (hx : ev e xo = some (.lit (.slice (some ⟨g, 0, none⟩) n c)) := by exact rfl) (hy : ev e yo = some (str l) := by exact rfl)
    (hm : ∀ g' c', Upd m (.buf g E 1 xs c) (.buf g' E 1 (xs ++ bytA l) c') (M g' c') := by intro g' c'; (repeat (first | apply Av.Upd.here | apply Av.Upd.there))) (hn : n = xs.length := by first | exact rfl | (simp; done) | (simp; omega)) (hnc : n ≤ c := by omega)
    (hb : n + l.length ≤ 140737488355328 := by omega) (hd : Nat.blt d N = true := by exact rfl) :
    AL P N ops Q s (⟨some d, .call ⟨.builtin .append, #[xo, yo], #[T, U]⟩, ty, pos, af, none⟩ :: rest) e m := by
  subst hn
  refine al_stepV (fun ok w B hS hB => ?_) hd
  obtain ⟨i, z, q1, q2, hzk, hik, hib⟩ := t.zero
  have hg1 := hB.lit hx
  have hg2 := hB.lit hy
  have hs := ba_size l
  obtain ⟨pre, post, hm1, _⟩ := (hm g c).parts
  have hS0 := hS
  rw [hm1] at hS
  obtain ⟨cs1, cs2, a1, a2, a3, a4, a5⟩ := hS.at_ (.buf g E 1 xs c) (by simp)
  have hcl := a2.len a3
  rw [Nat.mul_one] at hcl
  by_cases hroom : xs.length + l.length ≤ c
  · obtain ⟨pre', post', hm1', hm2'⟩ := (hm g c).parts
    rw [hm1'] at hS0
    obtain ⟨w', r1, r2, r3⟩ := St.overB (P := P) hS0 (RCs_byt l) (byt_sz l) (Nat.le_refl _) (by rw [bytA_len]; exact hroom)
    have ho : over xs xs.length (bytA l) = xs ++ bytA l := by
      unfold over
      rw [List.take_length, List.drop_of_length_le (by omega), List.append_nil]
    rw [ho] at r2
    have hf := Lib.run_firstCells_string (P := P) w i.size ⟨l.toArray⟩
    rw [hs, strCells_eq] at hf
    rw [Nat.mul_one] at r1
    have hr : (Builtin.append_ #[T, U] ty #[.slice (some ⟨g, 0, none⟩) xs.length c, .string ⟨l.toArray⟩]).run P w = .ok (.slice (some ⟨g, 0, none⟩) (xs.length + l.length) c) w' := by
      simp [Builtin.append_, run_underlying t.l.out, run_underlying tu.out, Go.sizeOf, typeInfo, q1, Builtin.lenOf, hs, hroom, hik, add_mid]
      rw [hik] at hf
      simp [hf, r1]
    exact ⟨_, .slice (some ⟨g, 0, none⟩) (xs.length + l.length) c, w', ok, _, by simp [execOp, resolve, invoke, builtin, hg1, hg2, hr], RVl rfl, by rw [hm2']; exact r2, r3, h g c hroom⟩
  · have holds : ∀ j v, cs1[j]? = some v → w.cell? ((⟨g, 0, none⟩ : Addr).add j) = some v := fun j v hj => by
      rw [add_mid, cell_of_row _ _ _ _ _ _ a1]
      have hj' : j < cs1.length := (List.getElem?_eq_some_iff.1 hj).1
      simp only [Nat.zero_add, List.getElem?_toArray]
      rw [List.getElem?_append_left hj']
      exact hj
    have hr := Lib.run_append_grow_string (P := P) w T U ty E i z t.l.out tu.out q1 q2 ⟨g, 0, none⟩ xs.length c cs1 (by rw [hik, Nat.mul_one]; exact hcl) holds ⟨l.toArray⟩ (by rw [hs]; omega) (by rw [hs]; omega) (by rw [hs, hib]; exact growslice_fits (by omega) (by omega))
    rw [hs, strCells_eq] at hr
    have hge := grownCap_ge w (xs.length + l.length) c E
    have hle := grownCap_le_maxLen w (xs.length + l.length) c E (by simp [maxLen]; omega)
    generalize grownCap w (xs.length + l.length) c E = c' at hr hge hle
    obtain ⟨pre', post', hm1', hm2'⟩ := (hm w.heap.size c').parts
    have hE : Ext w (w.drew.alloc (.cells (cs1.toArray ++ (l.map u8v).toArray ++ Builtin.zeroCells z.cells (c' - (xs.length + l.length))) E)) := Ext.trans' (Ext.drew w) (Ext.alloc w.drew _)
    have hblk : (w.drew.alloc (.cells (cs1.toArray ++ (l.map u8v).toArray ++ Builtin.zeroCells z.cells (c' - (xs.length + l.length))) E)).heap[w.heap.size]? = some (.cells ((cs1 ++ l.map u8v) ++ (Builtin.zeroCells z.cells (c' - (xs.length + l.length))).toList).toArray E (0, 0)) := by
      rw [show ((cs1 ++ l.map u8v) ++ (Builtin.zeroCells z.cells (c' - (xs.length + l.length))).toList).toArray = cs1.toArray ++ (l.map u8v).toArray ++ Builtin.zeroCells z.cells (c' - (xs.length + l.length)) by apply Array.ext'; simp]
      exact heap_alloc_new w.drew _
    rw [hm1'] at hS0
    have hd := hS0.less (m' := pre' ++ post') (by simp)
    obtain ⟨ok', r1, r2⟩ := St.newBuf hd hE (by simp) hblk (a2.append (RCs_byt l)) (fun x hx => (List.mem_append.1 hx).elim (a3 x) (byt_sz l x)) (c := c') (by
      simp only [List.length_append, Array.length_toList, size_zeroCells, hzk, hcl, List.length_map]
      omega) hle
    exact ⟨_, .slice (some ⟨w.heap.size, 0, none⟩) (xs.length + l.length) c', _, ok', _, by simp [execOp, resolve, invoke, builtin, hg1, hg2, hr], RVl rfl, by rw [hm2']; exact r1.perm List.perm_middle, r2, h _ _ hge⟩
/-- .. onto nil -/
theorem al_appendNS {T U E : TypeId} [t : TyE P T E 1 1] [tu : TyT P U] {xo yo : Operand} {l : Bs} (h : ∀ g' c', l.length ≤ c' → AL P N ops Q s rest ((d, .lit (.slice (some ⟨g', 0, none⟩) l.length c')) :: e) (.buf g' E 1 (bytA l) c' :: m)) (hx : ev e xo = some (.lit (.slice none 0 0)) := by exact rfl) (hy : ev e yo = some (str l) := by exact rfl)
    (h0 : 0 < l.length := by omega) (hb : l.length ≤ 140737488355328 := by omega) (hd : Nat.blt d N = true := by exact rfl) :
    AL P N ops Q s (⟨some d, .call ⟨.builtin .append, #[xo, yo], #[T, U]⟩, ty, pos, af, none⟩ :: rest) e m := by
  refine al_stepV (fun ok w B hS hB => ?_) hd
  obtain ⟨i, z, q1, q2, hzk, hik, hib⟩ := t.zero
  have hg1 := hB.lit hx
  have hg2 := hB.lit hy
  have hs := ba_size l
  have hr := run_append_nil_string (P := P) w T U ty E i z t.l.out tu.out q1 q2 ⟨l.toArray⟩ (by rw [hs]; exact h0) (by rw [hs]; omega) (by rw [hs, hib]; omega)
  have e1 : ((⟨l.toArray⟩ : ByteArray).data.map fun b => Value.int .u8 b.toNat) = (l.map u8v).toArray := by apply Array.ext'; simp [u8v]
  rw [e1, hs] at hr
  have hge := grownCap_ge w l.length 0 E
  have hle := grownCap_le_maxLen w l.length 0 E (by simp [maxLen]; omega)
  generalize grownCap w l.length 0 E = c' at hr hge hle
  have hE : Ext w (w.drew.alloc (.cells ((l.map u8v).toArray ++ Builtin.zeroCells z.cells (c' - l.length)) E)) := Ext.trans' (Ext.drew w) (Ext.alloc w.drew _)
  have hblk : (w.drew.alloc (.cells ((l.map u8v).toArray ++ Builtin.zeroCells z.cells (c' - l.length)) E)).heap[w.heap.size]? = some (.cells (l.map u8v ++ (Builtin.zeroCells z.cells (c' - l.length)).toList).toArray E (0, 0)) := by
    rw [show (l.map u8v ++ (Builtin.zeroCells z.cells (c' - l.length)).toList).toArray = (l.map u8v).toArray ++ Builtin.zeroCells z.cells (c' - l.length) by apply Array.ext'; simp]
    exact heap_alloc_new w.drew _
  obtain ⟨ok', r1, r2⟩ := St.newBuf hS hE (by simp) hblk (RCs_byt l) (byt_sz l) (c := c') (by
    simp only [Array.length_toList, size_zeroCells, hzk, List.length_map]
    omega) hle
  exact ⟨_, .slice (some ⟨w.heap.size, 0, none⟩) l.length c', _, ok', _, by simp [execOp, resolve, invoke, builtin, hg1, hg2, hr], RVl rfl, r1, r2, h _ _ hge⟩
/-- .. nothing onto nil -/
theorem al_appendNE {T U E : TypeId} [t : TyE P T E 1 1] [tu : TyT P U] {xo yo : Operand} (h : AL P N ops Q s rest ((d, .lit (.slice none 0 0)) :: e) m) (hx : ev e xo = some (.lit (.slice none 0 0)) := by exact rfl) (hy : ev e yo = some (str []) := by exact rfl) (hd : Nat.blt d N = true := by exact rfl) :
    AL P N ops Q s (⟨some d, .call ⟨.builtin .append, #[xo, yo], #[T, U]⟩, ty, pos, af, none⟩ :: rest) e m :=
  al_lit rfl (fun ok w B hB => by
    obtain ⟨i, z, q1, q2, hzk, hik, hib⟩ := t.zero
    have hf := Lib.run_firstCells_string (P := P) w i.size ⟨#[]⟩
    have hr : (Builtin.append_ #[T, U] ty #[.slice none 0 0, .string ⟨#[]⟩]).run P w = .ok (.slice none 0 0) w := by
      have hs : (⟨#[]⟩ : ByteArray).size = 0 := rfl
      rw [hs] at hf
      simp [Builtin.append_, run_underlying t.l.out, run_underlying tu.out, Go.sizeOf, typeInfo, q1, Builtin.lenOf, hs, hf]
    simp [execOp, resolve, invoke, builtin, hB.lit hx, hB.lit hy, hr]) hd h
/-- pointers and unsafe ones -/
theorem al_toUnsafe {S D t : TypeId} {j : TypeInfo} {x : Operand} {g n : Nat} {T0 : TypeId} {ps : List AV} (hs : P.underlying S = some (.pointer t)) (hD : P.underlying D = some .unsafePointer) (hi : P.info? t = some j) (hj : j.size ≠ 0) (hn : 0 < n) (h : AL P N ops Q s rest ((d, .lit (.pointer (some ⟨g, 0, none⟩))) :: e) m) (hx : ev e x = some (.lit (.pointer (some ⟨g, 0, none⟩))) := by exact rfl)
    (hm : Has m (.var g T0 (.agg n ps)) := by (repeat (first | exact Av.Has.here | apply Av.Has.there))) (hd : Nat.blt d N = true := by exact rfl) : AL P N ops Q s (⟨some d, .convert S D x, ty, pos, af, none⟩ :: rest) e m :=
  al_val (v := .lit (.pointer (some ⟨g, 0, none⟩))) (fun ok w a hS hA => by
    obtain ⟨cs, h1, h2⟩ := hS.at_ _ hm.mem
    rw [RC] at h2
    have hsh : w.shape? g = some (T0, n) := by simp [World.shape?, h1, h2.1]
    exact ⟨_, by simp [execOp, hA.lit hx, Lib.run_to_unsafe w ⟨g, 0, none⟩ hs hD hi hj hsh hn], RVl rfl⟩) hd h
theorem al_fromUnsafe {S D u : TypeId} {j : TypeInfo} {x : Operand} {g n : Nat} {T0 : TypeId} {ps : List AV} (hs : P.underlying S = some .unsafePointer) (hD : P.underlying D = some (.pointer u)) (hi : P.info? u = some j) (hl : liesAt P P.depth T0 (n / P.cellsOf T0) 0 u 1 = true) (h : AL P N ops Q s rest ((d, .lit (.pointer (some ⟨g, 0, none⟩))) :: e) m) (hx : ev e x = some (.lit (.pointer (some ⟨g, 0, none⟩))) := by exact rfl)
    (hm : Has m (.var g T0 (.agg n ps)) := by (repeat (first | exact Av.Has.here | apply Av.Has.there))) (hd : Nat.blt d N = true := by exact rfl) : AL P N ops Q s (⟨some d, .convert S D x, ty, pos, af, none⟩ :: rest) e m :=
  al_val (v := .lit (.pointer (some ⟨g, 0, none⟩))) (fun ok w a hS hA => by
    obtain ⟨cs, h1, h2⟩ := hS.at_ _ hm.mem
    rw [RC] at h2
    have hsh : w.shape? g = some (T0, n) := by simp [World.shape?, h1, h2.1]
    exact ⟨_, by simp [execOp, hA.lit hx, Lib.run_from_unsafe w ⟨g, 0, none⟩ hs hD hi hsh hl], RVl rfl⟩) hd h
/-- a pointer is itself -/
theorem al_ptrSame {T yT E : TypeId} {j : TypeInfo} {x y : Operand} {p : Addr} (hp : P.underlying T = some (.pointer E)) (hi : P.info? E = some j) (h : AL P N ops Q s rest ((d, boo false) :: e) m) (hx : ev e x = some (.lit (.pointer (some p))) := by exact rfl) (hy : ev e y = some (.lit (.pointer (some p))) := by exact rfl) (hd : Nat.blt d N = true := by exact rfl) :
    AL P N ops Q s (⟨some d, .binOp .neq T x y yT, ty, pos, af, none⟩ :: rest) e m :=
  al_lit rfl (fun ok w a ha => by
    have hg : (eqGuard .neq T x y (.pointer (some p)) (.pointer (some p))).run P w = .ok () w := by
      unfold eqGuard
      split <;> rfl
    simp [execOp, ha.lit hx, ha.lit hy, hg, Lib.run_neq_ptr_same w p hp hi]) hd h
/-- the bytes of an own row -/
theorem al_sliceData {T : TypeId} {x : Operand} {g n c : Nat} (h : AL P N ops Q s rest ((d, .lit (.pointer (some ⟨g, 0, none⟩))) :: e) m) (hc : c ≠ 0) (hx : ev e x = some (.lit (.slice (some ⟨g, 0, none⟩) n c)) := by exact rfl) (hd : Nat.blt d N = true := by exact rfl) :
    AL P N ops Q s (⟨some d, .call ⟨.builtin .unsafeSliceData, #[x], #[T]⟩, ty, pos, af, none⟩ :: rest) e m :=
  al_lit rfl (fun ok w a ha => by simp [execOp, resolve, invoke, builtin, ha.lit hx, Lib.run_unsafeSliceData_row w _ _ _ _ _ hc]) hd h
theorem al_sliceDataN {T : TypeId} {x : Operand} (h : AL P N ops Q s rest ((d, .lit (.pointer none)) :: e) m) (hx : ev e x = some (.lit (.slice none 0 0)) := by exact rfl) (hd : Nat.blt d N = true := by exact rfl) :
    AL P N ops Q s (⟨some d, .call ⟨.builtin .unsafeSliceData, #[x], #[T]⟩, ty, pos, af, none⟩ :: rest) e m :=
  al_lit rfl (fun ok w a ha => by simp [execOp, resolve, invoke, builtin, ha.lit hx, Lib.run_unsafeSliceData_nil]) hd h
theorem al_unsafeStrN {T U : TypeId} {x y : Operand} (h : AL P N ops Q s rest ((d, str []) :: e) m) (hx : ev e x = some (.lit (.pointer none)) := by exact rfl) (hy : ev e y = some (int 0) := by exact rfl) (hd : Nat.blt d N = true := by exact rfl) :
    AL P N ops Q s (⟨some d, .call ⟨.builtin .unsafeString, #[x, y], #[T, U]⟩, ty, pos, af, none⟩ :: rest) e m :=
  al_lit rfl (fun ok w a ha => by simp [execOp, resolve, invoke, builtin, ha.lit hx, ha.lit hy, Lib.run_unsafeString_none]; rfl) hd h
theorem freeze_heap (w : World) (a : Addr) (n b : Nat) (h : b ≠ a.block) : (w.freeze a n).heap[b]? = w.heap[b]? := by
  unfold World.freeze
  split
  · rfl
  · simp only [Array.getElem?_modify]
    rw [if_neg (fun e => h e.symm)]
theorem freeze_cell (w : World) (a : Addr) (n b j : Nat) : (w.freeze a n).cell? ⟨b, j, none⟩ = w.cell? ⟨b, j, none⟩ := by
  by_cases hb : b = a.block
  · unfold World.freeze
    split
    · rfl
    · simp only [World.cell?, Array.getElem?_modify, hb, if_true]
      cases hh : w.heap[a.block]? with
      | none => rfl
      | some o => cases o <;> rfl
  · exact cell_block (freeze_heap w a n b hb)
theorem freeze_rest (w : World) (a : Addr) (n : Nat) : (w.freeze a n).heap.size = w.heap.size ∧ (w.freeze a n).os = w.os ∧ (w.freeze a n).tape = w.tape ∧ (w.freeze a n).output = w.output := by
  unfold World.freeze
  split
  · exact ⟨rfl, rfl, rfl, rfl⟩
  · exact ⟨by simp, rfl, rfl, rfl⟩
/-- own bytes, frozen, as a text: the row is given up -/
theorem al_unsafeStr {T U E : TypeId} {x y : Operand} {g c : Nat} {l : Bs} {m' : List Piece} (hp : P.underlying T = some (.pointer E)) (hc : P.cellsOf E = 1) (h0 : l ≠ []) (h : AL P N ops Q s rest ((d, str l) :: e) m') (hx : ev e x = some (.lit (.pointer (some ⟨g, 0, none⟩))) := by exact rfl) (hy : ev e y = some (int l.length) := by exact rfl)
    (hm : Upd m (.buf g E 1 (bytA l) c) (.tail E 1 (.slice none 0 0)) m' := by (repeat (first | apply Av.Upd.here | apply Av.Upd.there))) (hl : l.length ≤ 9223372036854775807 := by omega) (hd : Nat.blt d N = true := by exact rfl) :
    AL P N ops Q s (⟨some d, .call ⟨.builtin .unsafeString, #[x, y], #[T, U]⟩, ty, pos, af, none⟩ :: rest) e m := by
  refine al_step (v := str l) (fun ok w a hS ha => ?_) hd
  obtain ⟨pre, post, rfl, rfl⟩ := hm.parts
  obtain ⟨cs1, cs2, h1, h2, h3, h4, h5⟩ := hS.at_ (.buf g E 1 (bytA l) c) (by simp)
  have hcs : cs1 = l.map u8v := RCs_u8_eq h2
  subst hcs
  have hsh : w.shape? g = some (E, (l.map u8v ++ cs2).length) := by simp [World.shape?, h1]
  have hr := Lib.run_unsafeString_row (P := P) w T U ty E hp hc g _ hsh l h0 (by simp) hl (fun j x hj => by
    rw [add_mid, cell_of_row _ _ _ _ _ _ h1]
    have hj' : j < (l.map u8v).length := by simpa using (List.getElem?_eq_some_iff.1 hj).1
    simp only [Nat.zero_add, List.getElem?_toArray]
    rw [List.getElem?_append_left hj', List.getElem?_map, hj]
    rfl)
  have hst : Stp ok w ok (w.freeze ⟨g, 0, none⟩ l.length) := ⟨by rw [(freeze_rest _ _ _).1]; exact Nat.le_refl _, fun b j v g1 g2 => ⟨by rw [freeze_cell]; exact g1, g2⟩⟩
  obtain ⟨f1, f2, f3, f4⟩ := freeze_rest w ⟨g, 0, none⟩ l.length
  refine ⟨.string ⟨l.toArray⟩, _, ok, _, by simp [execOp, resolve, invoke, builtin, ha.lit hx, ha.lit hy, hr], RVl rfl, ?_, hst, h⟩
  refine hS.write (g := g) (p' := .tail E 1 (.slice none 0 0)) rfl (.inr rfl) hst (.inl ⟨none, 0, rfl⟩) (fun b j hb => ?_) f1 f2 f3 f4 (fun b hne => freeze_heap w _ _ b hne) (fun _ _ _ => Iff.rfl)
  obtain ⟨a, n', c', he, hne, _⟩ := hb
  injection he with _ h1 h2
  omega
end
end Av

namespace Av
open Go Go.RowKit Tw
/-- numbers of 64 bits up to B -/
class W64 (k : IntKind) (B : outParam Int) : Prop where
  w : ∀ c : Int, 0 ≤ c → c ≤ B → k.wrap c = c
  b : k.bits = 64
  u : B ≤ 18446744073709551615
instance : W64 .i64 9223372036854775807 := ⟨fun c h0 h1 => wrap64_id (by omega) (by omega), rfl, by decide⟩
theorem wrap_u64 (n : Nat) (h : n < 18446744073709551616) : IntKind.u64.wrap (n : Int) = n := by
  show (IntKind.u64.wrap (n : Int)) = n
  simp [IntKind.wrap, IntKind.bits, IntKind.signed]
  omega
instance : W64 .u64 18446744073709551615 := ⟨fun c h0 h1 => by
  obtain ⟨n, rfl⟩ := Int.eq_ofNat_of_zero_le h0
  exact wrap_u64 n (by omega), rfl, by decide⟩
theorem or_run {k : IntKind} {B : Int} [hk : W64 k B] {m c : Nat} (hc : c < 256) (hm : ((m * 256 + c : Nat) : Int) ≤ B) (P : Program) (w : World) : (Op.intBits .or k ((m : Int) * 256) (c : Int)).run P w = .ok (.int k ((m : Int) * 256 + c)) w := by
  have hu := hk.u
  have hb := hk.b
  have e1 : ((m : Int) * 256) = ((m * 256 : Nat) : Int) := by simp
  have e2 : (BitVec.ofInt k.bits ((m : Int) * 256) ||| BitVec.ofInt k.bits (c : Int)).toNat = m * 256 + c := by
    rw [BitVec.toNat_or, e1, BitVec.ofInt_natCast, BitVec.ofInt_natCast, BitVec.toNat_ofNat, BitVec.toNat_ofNat, hb, Nat.mod_eq_of_lt (by omega), Nat.mod_eq_of_lt (by omega)]
    have := Nat.two_pow_add_eq_or_of_lt (i := 8) (b := c) (by omega) m
    rw [show m * 256 = 2 ^ 8 * m by omega]
    exact this.symm
  show Result.ok (Value.int k (k.wrap ((BitVec.ofInt k.bits ((m : Int) * 256) ||| BitVec.ofInt k.bits (c : Int)).toNat : Int))) w = _
  rw [e2, hk.w _ (by omega) hm]
  simp
section
variable {P : Program} {N : Nat} {ops : Array Oper} {Q : Exit → Act → World → Prop} {rest : List Oper} {s : Base} {e : Env} {m : List Piece} {d : Nat} {ty : TypeId} {pos : String} {af : Array Edge}
theorem al_shl8 {T yT : TypeId} {k yk : IntKind} {B : Int} [hk : W64 k B] {x y : Operand} {a : Int} (h : AL P N ops Q s rest ((d, .lit (.int k (a * 256))) :: e) m) (hx : ev e x = some (.lit (.int k a)) := by exact rfl) (hy : ev e y = some (.lit (.int yk 8)) := by exact rfl) (h0 : 0 ≤ a := by omega) (h1 : a * 256 ≤ B := by omega) (hd : Nat.blt d N = true := by exact rfl) :
    AL P N ops Q s (⟨some d, .binOp .shl T x y yT, ty, pos, af, none⟩ :: rest) e m :=
  al_shift rfl hx hy (fun w => by
    have hb := hk.b
    have h2 : min (8 : Int).toNat k.bits = 8 := by rw [hb]; rfl
    have h3 : ¬ ((8 : Int) < 0) := by omega
    have e1 : k.wrap (a * 256) = a * 256 := hk.w _ (by omega) h1
    simp only [Op.shift, h3, if_false, h2]
    show Result.ok (Value.int k (k.wrap (a * 2 ^ 8))) w = _
    rw [show (2 : Int) ^ 8 = 256 from rfl, e1]) (.inl rfl) hd h
theorem al_orB {T yT : TypeId} {k : IntKind} {B : Int} [hk : W64 k B] {x y : Operand} {a c : Int} (h : AL P N ops Q s rest ((d, .lit (.int k (a * 256 + c))) :: e) m) (hx : ev e x = some (.lit (.int k (a * 256))) := by exact rfl) (hy : ev e y = some (.lit (.int k c)) := by exact rfl) (h0 : 0 ≤ a := by omega) (h1 : 0 ≤ c := by omega) (h2 : c < 256 := by omega) (h3 : a * 256 + c ≤ B := by omega) (hd : Nat.blt d N = true := by exact rfl) :
    AL P N ops Q s (⟨some d, .binOp .or T x y yT, ty, pos, af, none⟩ :: rest) e m := by
  obtain ⟨m, rfl⟩ := Int.eq_ofNat_of_zero_le h0
  obtain ⟨n, rfl⟩ := Int.eq_ofNat_of_zero_le h1
  exact al_bits rfl hx hy (fun w => or_run (by omega) (by simpa using h3) P w) (.inr (.inl rfl)) hd h
theorem al_shl8I {T yT : TypeId} {yk : IntKind} {x y : Operand} {a : Int} (h : AL P N ops Q s rest ((d, .lit (.int .i64 (a * 256))) :: e) m) (hx : ev e x = some (.lit (.int .i64 a)) := by exact rfl) (hy : ev e y = some (.lit (.int yk 8)) := by exact rfl) (h0 : 0 ≤ a := by omega) (h1 : a * 256 ≤ 9223372036854775807 := by omega) (hd : Nat.blt d N = true := by exact rfl) :
    AL P N ops Q s (⟨some d, .binOp .shl T x y yT, ty, pos, af, none⟩ :: rest) e m := al_shl8 h hx hy h0 h1 hd
theorem al_orBI {T yT : TypeId} {x y : Operand} {a c : Int} (h : AL P N ops Q s rest ((d, .lit (.int .i64 (a * 256 + c))) :: e) m) (hx : ev e x = some (.lit (.int .i64 (a * 256))) := by exact rfl) (hy : ev e y = some (.lit (.int .i64 c)) := by exact rfl) (h0 : 0 ≤ a := by omega) (h1 : 0 ≤ c := by omega) (h2 : c < 256 := by omega) (h3 : a * 256 + c ≤ 9223372036854775807 := by omega) (hd : Nat.blt d N = true := by exact rfl) :
    AL P N ops Q s (⟨some d, .binOp .or T x y yT, ty, pos, af, none⟩ :: rest) e m := al_orB h hx hy h0 h1 h2 h3 hd
theorem al_shl8U {T yT : TypeId} {yk : IntKind} {x y : Operand} {a : Int} (h : AL P N ops Q s rest ((d, .lit (.int .u64 (a * 256))) :: e) m) (hx : ev e x = some (.lit (.int .u64 a)) := by exact rfl) (hy : ev e y = some (.lit (.int yk 8)) := by exact rfl) (h0 : 0 ≤ a := by omega) (h1 : a * 256 ≤ 18446744073709551615 := by omega) (hd : Nat.blt d N = true := by exact rfl) :
    AL P N ops Q s (⟨some d, .binOp .shl T x y yT, ty, pos, af, none⟩ :: rest) e m := al_shl8 h hx hy h0 h1 hd
theorem al_orBU {T yT : TypeId} {x y : Operand} {a c : Int} (h : AL P N ops Q s rest ((d, .lit (.int .u64 (a * 256 + c))) :: e) m) (hx : ev e x = some (.lit (.int .u64 (a * 256))) := by exact rfl) (hy : ev e y = some (.lit (.int .u64 c)) := by exact rfl) (h0 : 0 ≤ a := by omega) (h1 : 0 ≤ c := by omega) (h2 : c < 256 := by omega) (h3 : a * 256 + c ≤ 18446744073709551615 := by omega) (hd : Nat.blt d N = true := by exact rfl) :
    AL P N ops Q s (⟨some d, .binOp .or T x y yT, ty, pos, af, none⟩ :: rest) e m := al_orB h hx hy h0 h1 h2 h3 hd
theorem al_arithU {op : BinOp} {T yT : TypeId} {x y : Operand} {i j c : Int} (h : AL P N ops Q s rest ((d, .lit (.int .u64 c)) :: e) m) (hx : ev e x = some (.lit (.int .u64 i)) := by exact rfl) (hy : ev e y = some (.lit (.int .u64 j)) := by exact rfl) (hc : arith op i j = some c := by exact rfl)
    (h1 : 0 ≤ c := by omega) (h2 : c ≤ 18446744073709551615 := by omega) (hd : Nat.blt d N = true := by exact rfl) :
    AL P N ops Q s (⟨some d, .binOp op T x y yT, ty, pos, af, none⟩ :: rest) e m :=
  al_lit rfl (fun ok w a ha => run_bin ha hx hy (by rw [run_arith hc, (inferInstance : W64 .u64 _).w _ h1 h2])) hd h
theorem al_convB {S D : TypeId} {b : Bool} {kz : Nat} [tS : Ty P S b kz] {k' : IntKind} {B : Int} [t : TyI P D k'] [hk : W64 k' B] {x : Operand} {c : UInt8} (h : AL P N ops Q s rest ((d, .lit (.int k' (c.toNat : Int))) :: e) m) (hx : ev e x = some (.lit (u8v c)) := by exact rfl) (hB : 255 ≤ B := by omega) (hd : Nat.blt d N = true := by exact rfl) : AL P N ops Q s (⟨some d, .convert S D x, ty, pos, af, none⟩ :: rest) e m := by
  refine al_convI (k' := k') (n := (c.toNat : Int)) ?_ hx hd
  have := c.toNat_lt
  rw [hk.w _ (by omega) (by omega)]
  exact h
theorem al_convU {S D : TypeId} {b : Bool} {kz : Nat} [tS : Ty P S b kz] {k k' : IntKind} {B : Int} [t : TyI P D k'] [hk : W64 k' B] {x : Operand} {n : Int} (h : AL P N ops Q s rest ((d, .lit (.int k' n)) :: e) m) (hx : ev e x = some (.lit (.int k n)) := by exact rfl) (h0 : 0 ≤ n := by omega) (hB : n ≤ B := by omega) (hd : Nat.blt d N = true := by exact rfl) : AL P N ops Q s (⟨some d, .convert S D x, ty, pos, af, none⟩ :: rest) e m := by
  refine al_convI (k' := k') (n := n) ?_ hx hd
  rw [hk.w _ h0 hB]
  exact h
/-- a text's place, known -/
theorem al_idxSC {T : TypeId} [t : TyT P T] {x ix : Operand} {kd : IntKind} {i : Int} {b : Bs} {c : UInt8} (h : AL P N ops Q s rest ((d, .lit (u8v c)) :: e) m) (hx : ev e x = some (str b) := by exact rfl) (hi : ev e ix = some (.lit (.int kd i)) := by exact rfl) (hj : i = Int.ofNat i.toNat := by exact rfl) (hc : b[i.toNat]? = some c := by exact rfl) (hd : Nat.blt d N = true := by exact rfl) :
    AL P N ops Q s (⟨some d, .index T x ix, ty, pos, af, none⟩ :: rest) e m := al_idxS i.toNat h hc hx hi hj hd
end
/-- one step at numbers of bytes -/
theorem op6 {G G' : Prop} (h : G') (i : Wr G' → G := by
  intro h
  refine kL ?_
  first
  | (refine kBin ?_; first | exact al_shl8I h.o | exact al_shl8U h.o | exact al_orBI h.o | exact al_orBU h.o | exact al_arithU h.o)
  | (refine kConv ?_; first | exact al_convB h.o | exact al_convU h.o)
  | exact al_idxSC h.o) : G := i ⟨h⟩
theorem ob6 {G G' : Prop} (h : G') (i : Wr G' → G := by
  intro h
  refine kO ?_
  (apply obl_read []; exact rfl; exact rfl; kernel_rfl; (intro _ _; first | (refine op6 ?_; exact al_nil (ae_got rfl rfl)) | (refine al_on ?_; refine op6 ?_; exact al_nil (ae_got rfl rfl))); exact h.o)) : G := i ⟨h⟩
end Av
