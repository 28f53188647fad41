/- Rows of ints of ones own; what audit.Stale walks by. No conditions beside those in its theorems. -/
import Derived.Test.YtgmdginjikhamaaSL
import Derived.Test.YtgmdginjikhamaaSX5
set_option linter.unusedSimpArgs false
namespace Go.Proofs.AO
open Go.RowKit Go.Maps Go.Shelf Go.Sort
set_option linter.unusedVariables false
set_option linter.unusedSimpArgs false
set_option maxRecDepth 100000
set_option maxHeartbeats 2000000
/-- a row of ints of one's own -/
def OI (w : World) (base : Nat) (v : Value) (zs : List Int) : Prop := w.ownsRow base 3 1 v zs.length (zs.map fun z => .int .i64 z)
theorem info3 : (Try.prog.info? 3).map (fun i => (i.zero, i.size, i.bytes)) = some (some (.int .i64 0), 1, 8) := by kernel_rfl
theorem OI.up {w w' : World} {base : Nat} {v : Value} {zs : List Int} (h : OI w base v zs) (u : Up w w') : OI w' base v zs := by
  obtain ⟨h1, h3⟩ := h
  rcases h3 with h3 | ⟨g, cap, cur, g1, g2, g3, g4⟩
  · exact ⟨h1, .inl h3⟩
  · exact ⟨h1, .inr ⟨g, cap, cur, g1, g2, u.heap g3, g4⟩⟩
theorem OI.low {w : World} {base base' : Nat} {v : Value} {zs : List Int} (h : OI w base v zs) (hb : base' ≤ base) : OI w base' v zs := by
  obtain ⟨h1, h3⟩ := h
  rcases h3 with h3 | ⟨g, cap, cur, g1, g2, g3⟩
  · exact ⟨h1, .inl h3⟩
  · exact ⟨h1, .inr ⟨g, cap, cur, g1, Nat.le_trans hb g2, g3⟩⟩
theorem OI.nil (w : World) (base : Nat) : OI w base (.slice none 0 0) [] := World.ownsRow_nil w base 3 1
theorem arm_ai {ops : Array Oper} {rest : List Oper} {o : Oper} {a : Act} {w0 w2 : World} {Q : Exit → Act → World → Prop} (hgd : o.guard = none) (s x : Operand) (ho : o.op = .call { callee := .builtin .append, args := #[s, x], argTypes := #[30, 30] })
    {base : Nat} {v : Value} {zs : List Int} (hown : OI w0 base v zs) (hm : zs.length ≤ 100000) (hb : base ≤ w0.heap.size) (f : Int) (hw : w2 = w0.alloc (.cells #[.int .i64 f] 3)) (hs : a.eval s = v) {K : Nat} (hx : a.eval x = .slice (some ⟨K, 0, none⟩) 1 1) (hK : K = w0.heap.size)
    (h : ∀ v' w', OI w' base v' (zs ++ [f]) → w2.grownBy w' v.ownBlock → (∀ k, v.ownBlock = some k → base ≤ k) → wpList Try.prog ops Q rest (a.put o.dst v') w') :
    wpList Try.prog ops Q (o :: rest) a w2 := by
  subst hw hK
  have hr := hown
  unfold OI at hr
  obtain ⟨i, hi, hz0, hz1, hz2⟩ := info_parts info3
  refine wpList_append_own _ hgd s x 30 ho base 3 i _ 1 8 Try.underlying30 hi hz0 hz1 hz2 rfl (by decide) v zs.length _ hs (hr.alloc _) ⟨w0.heap.size, 0, none⟩ 1 1 [.int .i64 f] hx rfl ?_ ?_ (by unfold maxLen; omega) (by omega) (by rw [size_alloc]; omega) ?_
  · intro j u hj
    match j, hj with
    | 0, hj => cases hj; exact cell_new' _ _ _ _ _ rfl
  · intro u hu
    simp at hu
    subst hu
    rfl
  · intro v' w' h1 h2 _
    refine h v' w' ?_ h2 fun k hk => (World.ownsRow.lt hr k hk).1
    unfold OI
    rw [List.map_append, List.length_append]
    exact h1
/-- a list of translations -/
structure Tr (w : World) (a : Option Addr) (n : Nat) (sp pg fr : Nat → Int) (rd wt : Nat → Bool) : Prop where
  n40 : n ≤ 40
  wf : ∀ i, WF (sp i) ∧ WF (pg i)
  at_ : ∀ i, i < n → ∃ b off, a = some ⟨b, off, none⟩ ∧ w.cell? ⟨b, off + i * 5, none⟩ = some (.int .i64 (sp i)) ∧ w.cell? ⟨b, off + i * 5 + 1, none⟩ = some (.int .i64 (pg i)) ∧ w.cell? ⟨b, off + i * 5 + 2, none⟩ = some (.int .i64 (fr i)) ∧ w.cell? ⟨b, off + i * 5 + 3, none⟩ = some (.bool (rd i)) ∧ w.cell? ⟨b, off + i * 5 + 4, none⟩ = some (.bool (wt i))
theorem Tr.up {w w' : World} {a : Option Addr} {n : Nat} {sp pg fr : Nat → Int} {rd wt : Nat → Bool} (h : Tr w a n sp pg fr rd wt) (u : Up w w') : Tr w' a n sp pg fr rd wt :=
  ⟨h.n40, h.wf, fun i hi => let ⟨b, off, h1, h2, h3, h4, h5, h6⟩ := h.at_ i hi; ⟨b, off, h1, u.keeps h2, u.keeps h3, u.keeps h4, u.keeps h5, u.keeps h6⟩⟩
/-- the numbers below k that are told -/
def told (p : Nat → Bool) (k : Nat) : List Int := ((List.range k).filter p).map fun (i : Nat) => (i : Int)
theorem told_succ (p : Nat → Bool) (k : Nat) : told p (k + 1) = told p k ++ if p k then [(k : Int)] else [] := by
  unfold told
  rw [List.range_succ, List.filter_append, List.map_append]
  cases h : p k <;> simp [h]
theorem told_len (p : Nat → Bool) (k : Nat) : (told p k).length ≤ k := by
  unfold told
  rw [List.length_map]
  exact Nat.le_trans (List.length_filter_le _ _) (by simp)
/-- a row under way beside a view's box -/
structure S8 (W : World) (A : Array Value) (w : World) (v : Value) (zs : List Int) : Prop where
  up : Up W w
  box : w.heap[W.heap.size]? = some (.cells A 32 (0, 0))
  sz : W.heap.size + 1 ≤ w.heap.size
  own : OI w (W.heap.size + 1) v zs
theorem S8.to {W : World} {A : Array Value} {w w' : World} {v : Value} {zs : List Int} (t : S8 W A w v zs) (h : Up w w') : S8 W A w' v zs := ⟨t.up.trans h, h.heap t.box, Nat.le_trans t.sz h.size, t.own.up h⟩
theorem S8.start (W : World) (A : Array Value) : S8 W A (W.alloc (.cells A 32)) (.slice none 0 0) [] := ⟨Up.push W _, heap_alloc_last W _, by rw [size_alloc]; omega, OI.nil _ _⟩
theorem S8.cell {W : World} {A : Array Value} {w : World} {v : Value} {zs : List Int} (t : S8 W A w v zs) (j : Nat) : w.cell? ⟨W.heap.size, j, none⟩ = A[j]? := cell_of_row _ _ _ _ _ _ t.box
theorem S8.ap {W : World} {A : Array Value} {w : World} {v : Value} {zs : List Int} {ops : Array Oper} {rest : List Oper} {o : Oper} {a : Act} {Q : Exit → Act → World → Prop} (t : S8 W A w v zs) (hgd : o.guard = none) (s x : Operand) (ho : o.op = .call { callee := .builtin .append, args := #[s, x], argTypes := #[30, 30] }) {w2 : World} (f : Int) (hw : w2 = w.alloc (.cells #[.int .i64 f] 3)) (hm : zs.length ≤ 100000) (hs : a.eval s = v) {K : Nat} (hx : a.eval x = .slice (some ⟨K, 0, none⟩) 1 1) (hK : K = w.heap.size)
    (h : ∀ v' w', S8 W A w' v' (zs ++ [f]) → wpList Try.prog ops Q rest (a.put o.dst v') w') : wpList Try.prog ops Q (o :: rest) a w2 := by
  refine arm_ai hgd s x ho t.own hm t.sz f hw hs hx hK fun v' w' h1 h2 h3 => h v' w' ?_
  subst hw
  have u := Up.push w (.cells #[.int .i64 f] 3)
  have hb : ∀ k, k < (w.alloc (.cells #[.int .i64 f] 3)).heap.size → k < W.heap.size + 1 → w'.heap[k]? = (w.alloc (.cells #[.int .i64 f] 3)).heap[k]? := fun k hk hne => h2.block k hk (fun e => by have := h3 k e.symm; omega)
  exact ⟨(t.up.trans u).grow h2 (fun k e => by have := h3 k e; omega), (hb _ (Nat.lt_of_lt_of_le (by have := t.sz; omega) u.size) (by omega)).trans (u.heap t.box), Nat.le_trans t.sz (Nat.le_trans u.size h2.size), h1⟩
end Go.Proofs.AO
namespace Go.Proofs.AO
open Go.RowKit Go.Maps Go.Shelf Go.Sort
set_option linter.unusedVariables false
set_option linter.unusedSimpArgs false
set_option maxRecDepth 100000
set_option maxHeartbeats 4000000
theorem leaf_g (p : Option Addr) (L cp : Nat) (ln : Nat → Nat) (xw : Nat → Nat → Nat) (root page : Int) (hr : WF root) (hp : WF page) (W : World) (h : Wl W p L ln xw) :
    Calls Try.prog 24 #[.slice p L cp, .int .i64 root, .int .i64 page] W fun e w' => e = .returned (.tuple #[wv (lfr L ln xw page 2 root), .bool (lfr L ln xw page 2 root).isSome]) ∧ Up W w' := by
  refine (leaf_f p L cp ln xw root page hr hp W h).mono ?_
  rintro e w' ⟨v, b, rfl, hu, ⟨x, h1, rfl, rfl⟩ | ⟨h1, rfl, rfl⟩⟩
  · exact ⟨by rw [h1]; rfl, hu⟩
  · exact ⟨by rw [h1]; rfl, hu⟩
theorem g1_good {L : Nat} {ln : Nat → Nat} {xw : Nat → Nat → Nat} {f i : Int} {want : Bool} {x : Nat} (h : g1 L ln xw f i want = some x) : nx L want x ≠ none := by
  unfold g1 at h
  split at h
  · split at h
    · cases h
    · rename_i y hy
      cases h
      rw [hy]
      simp
  · cases h
theorem lfr_good {L : Nat} {ln : Nat → Nat} {xw : Nat → Nat → Nat} {page : Int} : ∀ (k : Nat) {f : Int} {x : Nat}, lfr L ln xw page k f = some x → nx L true x ≠ none
  | 0, f, x, h => g1_good h
  | k + 1, f, x, h => by
    rw [lfr] at h
    split at h
    · cases h
    · exact lfr_good k h
/-- what the operations of audit.Stale's region 6 yield -/
def Fh (V : World) (p : Option Addr) (L cp : Nat) (A : Array Value) (X : Nat) (sp page rt : Int) (r : Option Nat) (i : Nat) (v : Value) (w : World) : Prop :=
  match i with
  | 0 => v = .slice p L cp
  | 1 => v = .agg A
  | 2 => v = .pointer (some ⟨X, 0, none⟩)
  | 3 => v = .int .i64 sp
  | 4 => v = .int .i64 rt
  | 5 => v = .pointer (some ⟨X, 1, none⟩)
  | 6 => v = .int .i64 page
  | 7 | 8 => v = .tuple #[wv r, .bool r.isSome]
  | 9 => v = wv r
  | 10 | 13 => v = .bool r.isSome
  | 11 => ∃ b, v = .pointer (some ⟨b, 0, none⟩) ∧ V.heap.size ≤ b ∧ b < w.heap.size ∧ w.there b 0 5 ∧ ∀ j, w.frozen? ⟨b, j, none⟩ = false
  | _ => True
def Nh (V : World) (r : Option Nat) (i : Nat) (a : Act) (w : World) : Prop :=
  ∃ b v0 v1 v2 v3 v4, a.eval (.tmp 11) = .pointer (some ⟨b, 0, none⟩) ∧ wv r = .agg #[v0, v1, v2, v3, v4] ∧ Bx5 V w b v0 v1 v2 v3 v4
theorem Nh.keep {V : World} {r : Option Nat} {j : Nat} {a : Act} {w : World} (h : Nh V r j a w) {d : Nat} (hd : d ≠ 11) (v : Value) : Nh V r j (a.put (some d) v) w := by
  obtain ⟨b, v0, v1, v2, v3, v4, h1, h2, h3⟩ := h
  refine ⟨b, v0, v1, v2, v3, v4, ?_, h2, h3⟩
  rw [eval_put_ne]
  · exact h1
  · intro e he hed
    cases he
    exact hd hed
theorem Fh.up {V : World} {p : Option Addr} {L cp : Nat} {A : Array Value} {X : Nat} {sp page rt : Int} {r : Option Nat} {j : Nat} {v : Value} {w w' : World} (h : Fh V p L cp A X sp page rt r j v w) (u : Up w w') : Fh V p L cp A X sp page rt r j v w' := by
  unfold Fh at h ⊢
  split at h
  all_goals try exact h
  obtain ⟨b, h1, h2, h3, h4, h5⟩ := h
  exact ⟨b, h1, h2, Nat.lt_of_lt_of_le h3 u.size, there_up u h3 h4, fun j => (u.fz _ h3).trans (h5 j)⟩
theorem Fh.set {V : World} {p : Option Addr} {L cp : Nat} {A : Array Value} {X : Nat} {sp page rt : Int} {r : Option Nat} {j : Nat} {v : Value} {w : World} (h : Fh V p L cp A X sp page rt r j v w) (g o : Nat) (vs : List Value) : Fh V p L cp A X sp page rt r j v (w.setCells g o vs) := by
  unfold Fh at h ⊢
  split at h
  all_goals try exact h
  obtain ⟨b, h1, h2, h3, h4, h5⟩ := h
  exact ⟨b, h1, h2, by rw [setCells_size]; exact h3, World.there_setCells h4 _ _ _, fun j => (World.frozen?_setCells ..).trans (h5 j)⟩
/-- is a translation not what a walk tells? -/
def bd (wh : Bool) (r : Option Nat) (fr : Int) (rd wt : Bool) : Bool := !wh || dif r fr rd wt
theorem act66 (a : Act) (h : a.tmps.size = 66) (hd : a.defers = []) : ∃ u : Nat → Value, (∀ i, a.eval (.tmp i) = u i) ∧ a = { tmps := #[u 0, u 1, u 2, u 3, u 4, u 5, u 6, u 7, u 8, u 9, u 10, u 11, u 12, u 13, u 14, u 15, u 16, u 17, u 18, u 19, u 20, u 21, u 22, u 23, u 24, u 25, u 26, u 27, u 28, u 29, u 30, u 31, u 32, u 33, u 34, u 35, u 36, u 37, u 38, u 39, u 40, u 41, u 42, u 43, u 44, u 45, u 46, u 47, u 48, u 49, u 50, u 51, u 52, u 53, u 54, u 55, u 56, u 57, u 58, u 59, u 60, u 61, u 62, u 63, u 64, u 65], defers := [] } := by
  refine ⟨fun i => a.eval (.tmp i), fun _ => rfl, ?_⟩
  obtain ⟨ts, ds⟩ := a
  simp only at h hd
  subst hd
  congr 1
  refine Array.ext_getElem? fun i => ?_
  match i with
  | 0 => simp [Act.eval, show 0 < ts.size by omega]
  | 1 => simp [Act.eval, show 1 < ts.size by omega]
  | 2 => simp [Act.eval, show 2 < ts.size by omega]
  | 3 => simp [Act.eval, show 3 < ts.size by omega]
  | 4 => simp [Act.eval, show 4 < ts.size by omega]
  | 5 => simp [Act.eval, show 5 < ts.size by omega]
  | 6 => simp [Act.eval, show 6 < ts.size by omega]
  | 7 => simp [Act.eval, show 7 < ts.size by omega]
  | 8 => simp [Act.eval, show 8 < ts.size by omega]
  | 9 => simp [Act.eval, show 9 < ts.size by omega]
  | 10 => simp [Act.eval, show 10 < ts.size by omega]
  | 11 => simp [Act.eval, show 11 < ts.size by omega]
  | 12 => simp [Act.eval, show 12 < ts.size by omega]
  | 13 => simp [Act.eval, show 13 < ts.size by omega]
  | 14 => simp [Act.eval, show 14 < ts.size by omega]
  | 15 => simp [Act.eval, show 15 < ts.size by omega]
  | 16 => simp [Act.eval, show 16 < ts.size by omega]
  | 17 => simp [Act.eval, show 17 < ts.size by omega]
  | 18 => simp [Act.eval, show 18 < ts.size by omega]
  | 19 => simp [Act.eval, show 19 < ts.size by omega]
  | 20 => simp [Act.eval, show 20 < ts.size by omega]
  | 21 => simp [Act.eval, show 21 < ts.size by omega]
  | 22 => simp [Act.eval, show 22 < ts.size by omega]
  | 23 => simp [Act.eval, show 23 < ts.size by omega]
  | 24 => simp [Act.eval, show 24 < ts.size by omega]
  | 25 => simp [Act.eval, show 25 < ts.size by omega]
  | 26 => simp [Act.eval, show 26 < ts.size by omega]
  | 27 => simp [Act.eval, show 27 < ts.size by omega]
  | 28 => simp [Act.eval, show 28 < ts.size by omega]
  | 29 => simp [Act.eval, show 29 < ts.size by omega]
  | 30 => simp [Act.eval, show 30 < ts.size by omega]
  | 31 => simp [Act.eval, show 31 < ts.size by omega]
  | 32 => simp [Act.eval, show 32 < ts.size by omega]
  | 33 => simp [Act.eval, show 33 < ts.size by omega]
  | 34 => simp [Act.eval, show 34 < ts.size by omega]
  | 35 => simp [Act.eval, show 35 < ts.size by omega]
  | 36 => simp [Act.eval, show 36 < ts.size by omega]
  | 37 => simp [Act.eval, show 37 < ts.size by omega]
  | 38 => simp [Act.eval, show 38 < ts.size by omega]
  | 39 => simp [Act.eval, show 39 < ts.size by omega]
  | 40 => simp [Act.eval, show 40 < ts.size by omega]
  | 41 => simp [Act.eval, show 41 < ts.size by omega]
  | 42 => simp [Act.eval, show 42 < ts.size by omega]
  | 43 => simp [Act.eval, show 43 < ts.size by omega]
  | 44 => simp [Act.eval, show 44 < ts.size by omega]
  | 45 => simp [Act.eval, show 45 < ts.size by omega]
  | 46 => simp [Act.eval, show 46 < ts.size by omega]
  | 47 => simp [Act.eval, show 47 < ts.size by omega]
  | 48 => simp [Act.eval, show 48 < ts.size by omega]
  | 49 => simp [Act.eval, show 49 < ts.size by omega]
  | 50 => simp [Act.eval, show 50 < ts.size by omega]
  | 51 => simp [Act.eval, show 51 < ts.size by omega]
  | 52 => simp [Act.eval, show 52 < ts.size by omega]
  | 53 => simp [Act.eval, show 53 < ts.size by omega]
  | 54 => simp [Act.eval, show 54 < ts.size by omega]
  | 55 => simp [Act.eval, show 55 < ts.size by omega]
  | 56 => simp [Act.eval, show 56 < ts.size by omega]
  | 57 => simp [Act.eval, show 57 < ts.size by omega]
  | 58 => simp [Act.eval, show 58 < ts.size by omega]
  | 59 => simp [Act.eval, show 59 < ts.size by omega]
  | 60 => simp [Act.eval, show 60 < ts.size by omega]
  | 61 => simp [Act.eval, show 61 < ts.size by omega]
  | 62 => simp [Act.eval, show 62 < ts.size by omega]
  | 63 => simp [Act.eval, show 63 < ts.size by omega]
  | 64 => simp [Act.eval, show 64 < ts.size by omega]
  | 65 => simp [Act.eval, show 65 < ts.size by omega]
  | i + 66 => rw [Array.getElem?_eq_none (by omega), Array.getElem?_eq_none (by simp)]
end Go.Proofs.AO
