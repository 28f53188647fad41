/- Seat r6, part 3: rows and maps of ones own. No conditions beside those in its theorems. -/
import Derived.Test.YtgmdginjikhamaaAO2
import Derived.Deep.MidRow
import Derived.Deep.WholeRow
import Derived.Maps.OwnOps
set_option linter.unusedSimpArgs false
namespace Go.Proofs.AO
open Go.RowKit Go.Maps
set_option linter.unusedVariables false
set_option maxRecDepth 100000
theorem arm_load {P : Program} {ops : Array Oper} {rest : List Oper} {op : Oper} {a : Act} {w : World} {Q : Exit → Act → World → Prop} (ty : TypeId) (x : Operand) (ho : op.op = .load ty x)
    (b o : Nat) (hx : a.eval x = .pointer (some ⟨b, o, none⟩)) (cs : List Value) (d : TypeDesc) (hc : w.rangeAt b o cs) (hu : P.underlying ty = some d) (hd : d.isRow = true) (hi : (P.info? ty).map (·.size) = some cs.length)
    (h1 : Region.wanted op (yielded ops a.tmps) = true → wpList P ops Q rest (a.put op.dst (.agg cs.toArray)) w) (h2 : Region.wanted op (yielded ops a.tmps) = false → wpList P ops Q rest (a.put op.dst undef) w) : wpList P ops Q (op :: rest) a w :=
  wpList_step fun K hK => by
    cases h : Region.wanted op (yielded ops a.tmps) with
    | true => exact wp_load_mid ty x ho b o hx cs d hc hu hd hi (hK _ _ (h1 h))
    | false => exact hK _ _ (h2 h)
theorem law3 : Keyed Try.prog 3 := int_keyed Try.underlying3
theorem zero3 (w : World) : (zeroValue 3).run Try.prog w = .ok (.int .i64 0) w := by kernel_rfl
abbrev WF (z : Int) : Prop := (Lit.int .i64 z).wf = true
/-- a map of ints that is one's own, of at most n entries -/
def Mp (w : World) (B n : Nat) : Prop := ∃ D : DataW Unit, w.ownsMap Try.prog 3 (plainElem Try.prog 3) B n D
theorem Mp.heap {w w' : World} {B n : Nat} (h : Mp w B n) (e : w'.heap[B]? = w.heap[B]?) : Mp w' B n := by
  obtain ⟨D, es, clock, hb, F, hs, hD⟩ := h
  exact ⟨D, es, clock, e.trans hb, F, hs, hD⟩
theorem Mp.lt {w : World} {B n : Nat} (h : Mp w B n) : B < w.heap.size := by
  obtain ⟨D, es, clock, hb, F, hs, hD⟩ := h
  exact (Array.getElem?_eq_some_iff.1 hb).1
theorem arm_lk {H : Type} {ops : Array Oper} {rest : List Oper} {o : Oper} {a : Act} {w : World} {Q : Exit → Act → World → Prop} (m x : Operand) (hop : o.op = Op.lookup 88 m x false) (B n : Nat) (hm : a.eval m = .map (some B)) (hown : Mp w B n) {z : Int} (hx : a.eval x = .int .i64 z) (hz : WF z)
    (h1 : Region.wanted o (yielded ops a.tmps) = true → ∀ c : Int, WF c → wpList Try.prog ops Q rest (a.put o.dst (.int .i64 c)) w) (h2 : Region.wanted o (yielded ops a.tmps) = false → wpList Try.prog ops Q rest (a.put o.dst undef) w) : wpList Try.prog ops Q (o :: rest) a w :=
  wpList_step fun K hK => by
    cases h : Region.wanted o (yielded ops a.tmps) with
    | true =>
      obtain ⟨D, hown⟩ := hown
      obtain ⟨c, hrun, hat, hwc⟩ := hown.lookup_int law3 Try.underlying88 Try.underlying3 (zero3 w) (keyOf_int_mk Try.underlying3 hz)
      rw [if_pos rfl]
      unfold Oper.wp
      simp [execOp, hop, hm, hx, hrun, Result.andThen]
      exact hK _ _ (h1 h c hwc)
    | false => exact hK _ _ (h2 h)
abbrev F3 := Int × Int × Int
def enc3 (x : F3) : List Value := [.int .i64 x.1, .int .i64 x.2.1, .int .i64 x.2.2]
/-- a row of findings that is one's own, of at most m -/
def Own (w : World) (base : Nat) (v : Value) (m : Nat) : Prop := ∃ d : List F3, d.length ≤ m ∧ w.ownsRow base 38 3 v d.length (d.flatMap enc3)
theorem enc3_len (d : List F3) : (d.flatMap enc3).length = d.length * 3 := by
  induction d with
  | nil => rfl
  | cons x d ih => simp [List.flatMap_cons, enc3, ih]; omega
theorem Own.heap {w w' : World} {base m : Nat} {v : Value} (h : Own w base v m) (e : ∀ k, k < w.heap.size → base ≤ k → w'.heap[k]? = w.heap[k]?) : Own w' base v m := by
  obtain ⟨d, h1, h2, h3⟩ := h
  refine ⟨d, h1, h2, ?_⟩
  rcases h3 with h3 | ⟨g, cap, cur, g1, g2, g3, g4⟩
  · exact .inl h3
  · exact .inr ⟨g, cap, cur, g1, g2, (e g (Array.getElem?_eq_some_iff.1 g3).1 g2).trans g3, g4⟩
theorem info38 : (Try.prog.info? 38).map (fun i => (i.zero, i.size, i.bytes)) = some (some (.agg #[.int .i64 0, .int .i64 0, .int .i64 0]), 3, 24) := by kernel_rfl
theorem arm_ap {ops : Array Oper} {rest : List Oper} {o : Oper} {a : Act} {w0 : World} {Q : Exit → Act → World → Prop} (hgd : o.guard = none) (s x : Operand) (ho : o.op = .call { callee := .builtin .append, args := #[s, x], argTypes := #[35, 35] })
    {base m : Nat} {v : Value} (hown : Own w0 base v m) (hm : m ≤ 100000) (hb : base ≤ w0.heap.size) (f : F3) (hs : a.eval s = v) (hx : a.eval x = .slice (some ⟨w0.heap.size, 0, none⟩) 1 1)
    (h : ∀ v' w', Own w' base v' (m + 1) → (w0.alloc (.cells #[.int .i64 f.1, .int .i64 f.2.1, .int .i64 f.2.2] 38)).grownBy w' v.ownBlock → (∀ k, v.ownBlock = some k → base ≤ k) → wpList Try.prog ops Q rest (a.put o.dst v') w') :
    wpList Try.prog ops Q (o :: rest) a (w0.alloc (.cells #[.int .i64 f.1, .int .i64 f.2.1, .int .i64 f.2.2] 38)) := by
  obtain ⟨d, hd, hr⟩ := hown
  obtain ⟨i, hi, hz0, hz1, hz2⟩ := info_parts info38
  refine wpList_append_own _ hgd s x 35 ho base 38 i _ 3 24 Try.underlying35 hi hz0 hz1 hz2 rfl (by decide) v d.length _ hs (hr.alloc _) ⟨w0.heap.size, 0, none⟩ 1 1 (enc3 f) hx rfl ?_ ?_ (by unfold maxLen; omega) (by omega) (by rw [size_alloc]; omega) ?_
  · intro j u hj
    match j, hj with
    | 0, hj => cases hj; exact cell_new' _ _ _ _ _ rfl
    | 1, hj => cases hj; exact cell_new' _ _ _ _ _ rfl
    | 2, hj => cases hj; exact cell_new' _ _ _ _ _ rfl
  · intro u hu
    simp [enc3] at hu
    rcases hu with rfl | rfl | rfl <;> rfl
  · intro v' w' h1 h2 _
    refine h v' w' ⟨d ++ [f], by simp; omega, ?_⟩ h2 fun k hk => (hr.lt k hk).1
    have e : (d ++ [f]).flatMap enc3 = d.flatMap enc3 ++ enc3 f := by simp
    have e2 : (d ++ [f]).length = d.length + 1 := by simp
    rw [e, e2]
    exact h1
end Go.Proofs.AO
