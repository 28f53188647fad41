/- Rows and maps of ones own; structs. No conditions beside those in its theorems. -/
import Derived.Test.YtgmdginjikhamaaSX1
import Derived.Deep.MidRow
import Derived.Deep.WholeRow
import Derived.Maps.OwnOps
set_option linter.unusedSimpArgs false
namespace Go.Proofs.AO
open Go.RowKit Go.Maps
set_option linter.unusedVariables false
set_option maxRecDepth 100000
theorem arm_load {P : Program} {ops : Array Oper} {rest : List Oper} {op : Oper} {a : Act} {w : World} {Q : Exit → Act → World → Prop} (ty : TypeId) (x : Operand) (ho : op.op = .load ty x)
    (b o : Nat) (hx : a.eval x = .pointer (some ⟨b, o, none⟩)) (cs : List Value) (d : TypeDesc) (hc : w.rangeAt b o cs) (hu : P.underlying ty = some d) (hd : d.isRow = true) (hi : (P.info? ty).map (·.size) = some cs.length)
    (h1 : Region.wanted op (yielded ops a.tmps) = true → wpList P ops Q rest (a.put op.dst (.agg cs.toArray)) w) (h2 : Region.wanted op (yielded ops a.tmps) = false → wpList P ops Q rest (a.put op.dst undef) w) : wpList P ops Q (op :: rest) a w :=
  wpList_step fun K hK => by
    cases h : Region.wanted op (yielded ops a.tmps) with
    | true => exact wp_load_mid ty x ho b o hx cs d hc hu hd hi (hK _ _ (h1 h))
    | false => exact hK _ _ (h2 h)
theorem law3 : Keyed Try.prog 3 := int_keyed Try.underlying3
theorem zero3 (w : World) : (zeroValue 3).run Try.prog w = .ok (.int .i64 0) w := by kernel_rfl
abbrev WF (z : Int) : Prop := (Lit.int .i64 z).wf = true
/-- a map of ints that is one's own, of at most n entries -/
def Mp (w : World) (B n : Nat) : Prop := ∃ D : DataW Unit, w.ownsMap Try.prog 3 (plainElem Try.prog 3) B n D
theorem Mp.heap {w w' : World} {B n : Nat} (h : Mp w B n) (e : w'.heap[B]? = w.heap[B]?) : Mp w' B n := by
  obtain ⟨D, es, clock, hb, F, hs, hD⟩ := h
  exact ⟨D, es, clock, e.trans hb, F, hs, hD⟩
theorem Mp.lt {w : World} {B n : Nat} (h : Mp w B n) : B < w.heap.size := by
  obtain ⟨D, es, clock, hb, F, hs, hD⟩ := h
  exact (Array.getElem?_eq_some_iff.1 hb).1
theorem arm_lk {H : Type} {ops : Array Oper} {rest : List Oper} {o : Oper} {a : Act} {w : World} {Q : Exit → Act → World → Prop} (m x : Operand) (hop : o.op = Op.lookup 88 m x false) (B n : Nat) (hm : a.eval m = .map (some B)) (hown : Mp w B n) {z : Int} (hx : a.eval x = .int .i64 z) (hz : WF z)
    (h1 : Region.wanted o (yielded ops a.tmps) = true → ∀ c : Int, WF c → wpList Try.prog ops Q rest (a.put o.dst (.int .i64 c)) w) (h2 : Region.wanted o (yielded ops a.tmps) = false → wpList Try.prog ops Q rest (a.put o.dst undef) w) : wpList Try.prog ops Q (o :: rest) a w :=
  wpList_step fun K hK => by
    cases h : Region.wanted o (yielded ops a.tmps) with
    | true =>
      obtain ⟨D, hown⟩ := hown
      obtain ⟨c, hrun, hat, hwc⟩ := hown.lookup_int law3 Try.underlying88 Try.underlying3 (zero3 w) (keyOf_int_mk Try.underlying3 hz)
      rw [if_pos rfl]
      unfold Oper.wp
      simp [execOp, hop, hm, hx, hrun, Result.andThen]
      exact hK _ _ (h1 h c hwc)
    | false => exact hK _ _ (h2 h)
abbrev F3 := Int × Int × Int
def enc3 (x : F3) : List Value := [.int .i64 x.1, .int .i64 x.2.1, .int .i64 x.2.2]
/-- a row of findings that is one's own, of at most m -/
def Own (w : World) (base : Nat) (v : Value) (m : Nat) : Prop := ∃ d : List F3, d.length ≤ m ∧ w.ownsRow base 38 3 v d.length (d.flatMap enc3)
theorem enc3_len (d : List F3) : (d.flatMap enc3).length = d.length * 3 := by
  induction d with
  | nil => rfl
  | cons x d ih => simp [List.flatMap_cons, enc3, ih]; omega
theorem Own.heap {w w' : World} {base m : Nat} {v : Value} (h : Own w base v m) (e : ∀ k, k < w.heap.size → base ≤ k → w'.heap[k]? = w.heap[k]?) : Own w' base v m := by
  obtain ⟨d, h1, h2, h3⟩ := h
  refine ⟨d, h1, h2, ?_⟩
  rcases h3 with h3 | ⟨g, cap, cur, g1, g2, g3, g4⟩
  · exact .inl h3
  · exact .inr ⟨g, cap, cur, g1, g2, (e g (Array.getElem?_eq_some_iff.1 g3).1 g2).trans g3, g4⟩
theorem info38 : (Try.prog.info? 38).map (fun i => (i.zero, i.size, i.bytes)) = some (some (.agg #[.int .i64 0, .int .i64 0, .int .i64 0]), 3, 24) := by kernel_rfl
theorem arm_ap {ops : Array Oper} {rest : List Oper} {o : Oper} {a : Act} {w0 : World} {Q : Exit → Act → World → Prop} (hgd : o.guard = none) (s x : Operand) (ho : o.op = .call { callee := .builtin .append, args := #[s, x], argTypes := #[35, 35] })
    {base m : Nat} {v : Value} (hown : Own w0 base v m) (hm : m ≤ 100000) (hb : base ≤ w0.heap.size) (f : F3) (hs : a.eval s = v) (hx : a.eval x = .slice (some ⟨w0.heap.size, 0, none⟩) 1 1)
    (h : ∀ v' w', Own w' base v' (m + 1) → (w0.alloc (.cells #[.int .i64 f.1, .int .i64 f.2.1, .int .i64 f.2.2] 38)).grownBy w' v.ownBlock → (∀ k, v.ownBlock = some k → base ≤ k) → wpList Try.prog ops Q rest (a.put o.dst v') w') :
    wpList Try.prog ops Q (o :: rest) a (w0.alloc (.cells #[.int .i64 f.1, .int .i64 f.2.1, .int .i64 f.2.2] 38)) := by
  obtain ⟨d, hd, hr⟩ := hown
  obtain ⟨i, hi, hz0, hz1, hz2⟩ := info_parts info38
  refine wpList_append_own _ hgd s x 35 ho base 38 i _ 3 24 Try.underlying35 hi hz0 hz1 hz2 rfl (by decide) v d.length _ hs (hr.alloc _) ⟨w0.heap.size, 0, none⟩ 1 1 (enc3 f) hx rfl ?_ ?_ (by unfold maxLen; omega) (by omega) (by rw [size_alloc]; omega) ?_
  · intro j u hj
    match j, hj with
    | 0, hj => cases hj; exact cell_new' _ _ _ _ _ rfl
    | 1, hj => cases hj; exact cell_new' _ _ _ _ _ rfl
    | 2, hj => cases hj; exact cell_new' _ _ _ _ _ rfl
  · intro u hu
    simp [enc3] at hu
    rcases hu with rfl | rfl | rfl <;> rfl
  · intro v' w' h1 h2 _
    refine h v' w' ⟨d ++ [f], by simp; omega, ?_⟩ h2 fun k hk => (hr.lt k hk).1
    have e : (d ++ [f]).flatMap enc3 = d.flatMap enc3 ++ enc3 f := by simp
    have e2 : (d ++ [f]).length = d.length + 1 := by simp
    rw [e, e2]
    exact h1
end Go.Proofs.AO
namespace Go.Proofs.AO
open Go.RowKit Go.Maps
set_option linter.unusedVariables false
set_option maxRecDepth 100000
/-- a row of structs of es cells, that may be nil: of the j-th Pr holds -/
def Rs (es : Nat) (Pr : Array Value → Prop) (W : World) (a : Option Addr) (n : Nat) : Prop :=
  ∀ j, j < n → ∃ b off, ∃ cs : Array Value, a = some ⟨b, off, none⟩ ∧ cs.size = es ∧ cs.all (·.oneCell') = true ∧ W.rangeAt b (off + j * es) cs.toList ∧ Pr cs
theorem rangeAt_up {W w : World} {b o : Nat} {cs : List Value} (h : W.rangeAt b o cs) (hu : Up W w) : w.rangeAt b o cs := fun j v hj => hu.keeps (h j v hj)
theorem Rs.up {es : Nat} {Pr : Array Value → Prop} {W w : World} {a : Option Addr} {n : Nat} (h : Rs es Pr W a n) (hu : Up W w) : Rs es Pr w a n := fun j hj =>
  let ⟨b, off, cs, h1, h2, h3, h4, h5⟩ := h j hj; ⟨b, off, cs, h1, h2, h3, rangeAt_up h4 hu, h5⟩
theorem arm_store {P : Program} {ops : Array Oper} {rest : List Oper} {o : Oper} {a : Act} {w w0 : World} {Q : Exit → Act → World → Prop} (hgd : o.guard = none) (ty : TypeId) (x y : Operand) (ho : o.op = .store ty x y)
    {t : TypeId} {old : Array Value} (hw : w = w0.alloc (.cells old t)) (cells : Array Value) (hx : a.eval x = .pointer (some ⟨w0.heap.size, 0, none⟩)) (hy : a.eval y = .agg cells) (hi : (P.info? ty).map (·.size) = some cells.size)
    (hold : old.size = cells.size) (h1 : cells.all (·.oneCell') = true) (h : wpList P ops Q rest (a.put o.dst undef) (w0.alloc (.cells cells t))) : wpList P ops Q (o :: rest) a w := by
  subst hw
  refine wpList_store_row hgd ty x y ho w0.heap.size cells hx hy t old (heap_alloc_last w0 _) hi hold h1 ?_
  rw [World.setRow_alloc_new]
  exact h
structure TI (W : World) (A : Array Value) (w : World) (n1 n2 n3 : Nat) (v : Value) (m : Nat) (x : Nat × Array Value × TypeId) : Prop where
  up : Up W w
  box : w.heap[W.heap.size]? = some (.cells A 32 (0, 0))
  m1 : Mp w (W.heap.size + 1) n1
  m2 : Mp w (W.heap.size + 1 + 1) n2
  m3 : Mp w (W.heap.size + 1 + 1 + 1) n3
  sz : W.heap.size + 1 + 1 + 1 + 1 ≤ w.heap.size
  own : Own w (W.heap.size + 1 + 1 + 1 + 1) v m
  bx : W.heap.size + 1 + 1 + 1 + 1 ≤ x.1 → w.heap[x.1]? = some (.cells x.2.1 x.2.2 (0, 0))
section
variable {W : World} {A : Array Value} {w w' : World} {n1 n2 n3 m : Nat} {v : Value} {xb : Nat × Array Value × TypeId}
theorem TI.of (t : TI W A w n1 n2 n3 v m xb) (h : Up w w') : TI W A w' n1 n2 n3 v m xb :=
  ⟨t.up.trans h, h.heap t.box, t.m1.heap (h.block _ t.m1.lt), t.m2.heap (h.block _ t.m2.lt), t.m3.heap (h.block _ t.m3.lt), Nat.le_trans t.sz h.size, t.own.heap fun k hk _ => h.block k hk, fun hx => h.heap (t.bx hx)⟩
theorem TI.al (t : TI W A w n1 n2 n3 v m xb) (o : Obj) : TI W A (w.alloc o) n1 n2 n3 v m xb := t.of (Up.push w o)
theorem TI.set1 (t : TI W A w n1 n2 n3 v m xb) {n : Nat} (hg : w.grownBy w' (some (W.heap.size + 1))) (h : Mp w' (W.heap.size + 1) n) : TI W A w' n n2 n3 v m xb :=
  have hb : ∀ k, k < w.heap.size → k ≠ W.heap.size + 1 → w'.heap[k]? = w.heap[k]? := fun k hk hne => hg.block k hk (by simpa using hne)
  ⟨t.up.grow hg (fun k e => by cases e; omega), (hb _ (by have := t.sz; omega) (by omega)).trans t.box, h, t.m2.heap (hb _ t.m2.lt (by omega)), t.m3.heap (hb _ t.m3.lt (by omega)), Nat.le_trans t.sz hg.size, t.own.heap fun k hk hk2 => hb k hk (by omega), fun hx => (hb _ (Array.getElem?_eq_some_iff.1 (t.bx hx)).1 (by omega)).trans (t.bx hx)⟩
theorem TI.set2 (t : TI W A w n1 n2 n3 v m xb) {n : Nat} (hg : w.grownBy w' (some (W.heap.size + 1 + 1))) (h : Mp w' (W.heap.size + 1 + 1) n) : TI W A w' n1 n n3 v m xb :=
  have hb : ∀ k, k < w.heap.size → k ≠ W.heap.size + 1 + 1 → w'.heap[k]? = w.heap[k]? := fun k hk hne => hg.block k hk (by simpa using hne)
  ⟨t.up.grow hg (fun k e => by cases e; omega), (hb _ (by have := t.sz; omega) (by omega)).trans t.box, t.m1.heap (hb _ t.m1.lt (by omega)), h, t.m3.heap (hb _ t.m3.lt (by omega)), Nat.le_trans t.sz hg.size, t.own.heap fun k hk hk2 => hb k hk (by omega), fun hx => (hb _ (Array.getElem?_eq_some_iff.1 (t.bx hx)).1 (by omega)).trans (t.bx hx)⟩
theorem TI.set3 (t : TI W A w n1 n2 n3 v m xb) {n : Nat} (hg : w.grownBy w' (some (W.heap.size + 1 + 1 + 1))) (h : Mp w' (W.heap.size + 1 + 1 + 1) n) : TI W A w' n1 n2 n v m xb :=
  have hb : ∀ k, k < w.heap.size → k ≠ W.heap.size + 1 + 1 + 1 → w'.heap[k]? = w.heap[k]? := fun k hk hne => hg.block k hk (by simpa using hne)
  ⟨t.up.grow hg (fun k e => by cases e; omega), (hb _ (by have := t.sz; omega) (by omega)).trans t.box, t.m1.heap (hb _ t.m1.lt (by omega)), t.m2.heap (hb _ t.m2.lt (by omega)), h, Nat.le_trans t.sz hg.size, t.own.heap fun k hk hk2 => hb k hk (by omega), fun hx => (hb _ (Array.getElem?_eq_some_iff.1 (t.bx hx)).1 (by omega)).trans (t.bx hx)⟩
theorem TI.app (t : TI W A w n1 n2 n3 v m xb) {v' : Value} {m' : Nat} {row : Option Nat} (hg : w.grownBy w' row) (hr : ∀ k, row = some k → W.heap.size + 1 + 1 + 1 + 1 ≤ k) (h : Own w' (W.heap.size + 1 + 1 + 1 + 1) v' m') : TI W A w' n1 n2 n3 v' m' (0, #[], 0) :=
  have hb : ∀ k, k < w.heap.size → k < W.heap.size + 1 + 1 + 1 + 1 → w'.heap[k]? = w.heap[k]? := fun k hk hne => hg.block k hk (fun e => by have := hr k e.symm; omega)
  ⟨t.up.grow hg (fun k e => by have := hr k e; omega), (hb _ (by have := t.sz; omega) (by omega)).trans t.box, t.m1.heap (hb _ t.m1.lt (by omega)), t.m2.heap (hb _ t.m2.lt (by omega)), t.m3.heap (hb _ t.m3.lt (by omega)), Nat.le_trans t.sz hg.size, h, fun hx => absurd hx (by show ¬ _ ≤ 0; omega)⟩
variable {ops : Array Oper} {rest : List Oper} {o : Oper} {a : Act} {Q : Exit → Act → World → Prop}
theorem TI.lk (t : TI W A w n1 n2 n3 v m xb) (mm x : Operand) (hop : o.op = Op.lookup 88 mm x false) (B : Nat) (hB : B = W.heap.size + 1 ∨ B = W.heap.size + 1 + 1 ∨ B = W.heap.size + 1 + 1 + 1) (hm : a.eval mm = .map (some B)) {z : Int} (hx : a.eval x = .int .i64 z) (hz : WF z)
    (h1 : Region.wanted o (yielded ops a.tmps) = true → ∀ c : Int, WF c → wpList Try.prog ops Q rest (a.put o.dst (.int .i64 c)) w) (h2 : Region.wanted o (yielded ops a.tmps) = false → wpList Try.prog ops Q rest (a.put o.dst undef) w) : wpList Try.prog ops Q (o :: rest) a w := by
  rcases hB with rfl | rfl | rfl
  · exact arm_lk (H := Unit) mm x hop _ _ hm t.m1 hx hz h1 h2
  · exact arm_lk (H := Unit) mm x hop _ _ hm t.m2 hx hz h1 h2
  · exact arm_lk (H := Unit) mm x hop _ _ hm t.m3 hx hz h1 h2
theorem arm_st {B n : Nat} (hgd : o.guard = none) (mm x y : Operand) (hop : o.op = Op.mapUpdate 88 mm x y) (hm : a.eval mm = .map (some B)) (hown : Mp w B n) (hn : n ≤ 100000) {z c : Int} (hx : a.eval x = .int .i64 z) (hz : WF z) (hy : a.eval y = .int .i64 c) (hc : WF c)
    (h : ∀ w1, Mp w1 B (n + 1) → w.grownBy w1 (some B) → wpList Try.prog ops Q rest (a.put o.dst undef) w1) : wpList Try.prog ops Q (o :: rest) a w := by
  obtain ⟨D, hown⟩ := hown
  refine wpList_mapUpdate_own _ hgd mm x y 88 hop 3 3 law3 Try.underlying88 _ B n D hm hown (by unfold maxLen; omega) _ _ _ hx hy (keyOf_int_mk Try.underlying3 hz) _ [] (plainElem_int Try.underlying3 hc) ?_
  intro w1 h1 h2
  exact h w1 ⟨_, h1⟩ h2
theorem TI.st (t : TI W A w n1 n2 n3 v m xb) (hgd : o.guard = none) (mm x y : Operand) (hop : o.op = Op.mapUpdate 88 mm x y) (B : Nat) (hB : B = W.heap.size + 1 ∨ B = W.heap.size + 1 + 1 ∨ B = W.heap.size + 1 + 1 + 1) (hm : a.eval mm = .map (some B))
    (k1 : n1 ≤ 1000) (k2 : n2 ≤ 1000) (k3 : n3 ≤ 1000) {z c : Int} (hx : a.eval x = .int .i64 z) (hz : WF z) (hy : a.eval y = .int .i64 c) (hc : WF c)
    (h : ∀ w1, TI W A w1 (n1 + 1) (n2 + 1) (n3 + 1) v m xb → wpList Try.prog ops Q rest (a.put o.dst undef) w1) : wpList Try.prog ops Q (o :: rest) a w := by
  have up1 : ∀ {w B n}, Mp w B n → Mp w B (n + 1) := fun ⟨D, es, clock, hb, F, hs, hD⟩ => ⟨D, es, clock, hb, F, Nat.le_succ_of_le hs, hD⟩
  rcases hB with rfl | rfl | rfl
  · exact arm_st hgd mm x y hop hm t.m1 (by omega) hx hz hy hc fun w1 q1 q2 => h w1 (let s := t.set1 q2 q1; ⟨s.up, s.box, s.m1, up1 s.m2, up1 s.m3, s.sz, s.own, s.bx⟩)
  · exact arm_st hgd mm x y hop hm t.m2 (by omega) hx hz hy hc fun w1 q1 q2 => h w1 (let s := t.set2 q2 q1; ⟨s.up, s.box, up1 s.m1, s.m2, up1 s.m3, s.sz, s.own, s.bx⟩)
  · exact arm_st hgd mm x y hop hm t.m3 (by omega) hx hz hy hc fun w1 q1 q2 => h w1 (let s := t.set3 q2 q1; ⟨s.up, s.box, up1 s.m1, up1 s.m2, s.m3, s.sz, s.own, s.bx⟩)
theorem TI.ap (t : TI W A w n1 n2 n3 v m xb) (hgd : o.guard = none) (s x : Operand) (ho : o.op = .call { callee := .builtin .append, args := #[s, x], argTypes := #[35, 35] }) {w2 : World} (f1 f2 f3 : Int) (hw : w2 = w.alloc (.cells #[.int .i64 f1, .int .i64 f2, .int .i64 f3] 38)) (hm : m ≤ 100000) (hs : a.eval s = v) (hx : a.eval x = .slice (some ⟨w.heap.size, 0, none⟩) 1 1)
    (h : ∀ v' w', TI W A w' n1 n2 n3 v' (m + 1) (0, #[], 0) → wpList Try.prog ops Q rest (a.put o.dst v') w') : wpList Try.prog ops Q (o :: rest) a w2 := by
  subst hw
  exact arm_ap hgd s x ho t.own hm t.sz (f1, f2, f3) hs hx fun v' w' h1 h2 h3 => h v' w' ((t.al _).app h2 h3 h1)
theorem TI.grow (t : TI W A w n1 n2 n3 v m xb) {k1 k2 k3 m' : Nat} (h1 : n1 ≤ k1) (h2 : n2 ≤ k2) (h3 : n3 ≤ k3) (h4 : m ≤ m') : TI W A w k1 k2 k3 v m' (0, #[], 0) := by
  have up1 : ∀ {w B n k}, n ≤ k → Mp w B n → Mp w B k := fun hk ⟨D, es, clock, hb, F, hs, hD⟩ => ⟨D, es, clock, hb, F, Nat.le_trans hs hk, hD⟩
  obtain ⟨d, q1, q2⟩ := t.own
  exact ⟨t.up, t.box, up1 h1 t.m1, up1 h2 t.m2, up1 h3 t.m3, t.sz, ⟨d, Nat.le_trans q1 h4, q2⟩, fun hx => absurd hx (by show ¬ _ ≤ 0; omega)⟩
theorem TI.new (t : TI W A w n1 n2 n3 v m xb) (cs : Array Value) (T : TypeId) : TI W A (w.alloc (.cells cs T)) n1 n2 n3 v m (w.heap.size, cs, T) :=
  let s := t.al (.cells cs T)
  ⟨s.up, s.box, s.m1, s.m2, s.m3, s.sz, s.own, fun _ => heap_alloc_last w _⟩
theorem TI.bc (t : TI W A w n1 n2 n3 v m xb) (h : W.heap.size + 1 + 1 + 1 + 1 ≤ xb.1) (j : Nat) : w.cell? ⟨xb.1, j, none⟩ = xb.2.1[j]? := cell_of_row _ _ _ _ _ _ (t.bx h)
end
end Go.Proofs.AO
